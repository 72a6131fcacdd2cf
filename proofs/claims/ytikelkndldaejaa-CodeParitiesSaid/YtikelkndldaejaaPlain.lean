/-
  Plain words: loops that count up. For every program.
-/
import Derived.Test.YtikelkndldaejaaPlA
import Derived.Test.YtikelkndldaejaaCsS
set_option linter.all false
namespace Go.PW
theorem w64_nat {n : Nat} (h : n < 4611686018427387904) : w64 (n : Int) = n := w64_id (by omega)
theorem w64_succ {k : Nat} (h : k < 4611686018427387904) : w64 ((k : Int) + 1) = ((k + 1 : Nat) : Int) := by rw [w64_id (by omega)]; rfl

/-- A loop that counts up from k to len, with a state. -/
theorem rds_up {σ R : Type} (len : Nat) (b : (Int × σ → Option R) → Int × σ → Option R) (F : Nat → σ → Option R)
    (hstep : ∀ k s rec, k < len → (∀ s', rec (((k + 1 : Nat) : Int), s') = F (k + 1) s') → b rec ((k : Int), s) = F k s) (hend : ∀ s rec, b rec ((len : Int), s) = F len s)
    {N : Nat} (hN : len < N) (s : σ) : rds b N (0, s) = F 0 s := by
  have h := rds_spec (b := b) (fun x => ∃ k : Nat, k ≤ len ∧ x.1 = k) (fun x => len - x.1.toNat) (fun x => F x.1.toNat x.2) (fun rec x hI hrec => ?_) N (0, s) ⟨0, Nat.zero_le _, rfl⟩ (by simp; omega)
  · simpa using h
  · obtain ⟨k, hk, hx⟩ := hI
    obtain ⟨i, t⟩ := x
    simp only at hx
    subst hx
    by_cases hkl : k < len
    · rw [hstep k t rec hkl (fun s' => ?_)]
      · simp
      · have := hrec (((k + 1 : Nat) : Int), s') ⟨k + 1, hkl, rfl⟩ (by simp only [Int.toNat_natCast]; omega)
        simpa using this
    · have : k = len := by omega
      subst this
      rw [hend t rec]; simp
/-- The same, without a state. -/
theorem rds_up1 {R : Type} (len : Nat) (b : (Int → Option R) → Int → Option R) (F : Nat → Option R)
    (hstep : ∀ k rec, k < len → rec ((k + 1 : Nat) : Int) = F (k + 1) → b rec (k : Int) = F k) (hend : ∀ rec, b rec (len : Int) = F len)
    {N : Nat} (hN : len < N) : rds b N 0 = F 0 := by
  have h := rds_spec (b := b) (fun x => ∃ k : Nat, k ≤ len ∧ x = k) (fun x => len - x.toNat) (fun x => F x.toNat) (fun rec x hI hrec => ?_) N 0 ⟨0, Nat.zero_le _, rfl⟩ (by simp; omega)
  · simpa using h
  · obtain ⟨k, hk, hx⟩ := hI
    subst hx
    by_cases hkl : k < len
    · rw [hstep k rec hkl ?_]
      · simp
      · have := hrec ((k + 1 : Nat) : Int) ⟨k + 1, hkl, rfl⟩ (by simp only [Int.toNat_natCast]; omega)
        simpa using this
    · have : k = len := by omega
      subst this
      rw [hend rec]; simp
end Go.PW

/-
  What the shallow functions of the code chapter come to: lists and their errors.
-/
namespace Go.Sh
open Go.PW

theorem within_eq (N : Nat) (n lo hi : Int) : code_within N n lo hi = some (decide (lo ≤ n) && decide (n ≤ hi)) := rfl
theorem unless_eq (N : Nat) (b : Bool) (e : Int) : code_unless N b e = some (if b then 0 else e) := by cases b <;> rfl

/-- The first that is not 0. -/
def firstOf : List Int → Int
  | [] => 0
  | x :: l => if x = 0 then firstOf l else x
theorem firstOf_drop (l : List Int) (k : Nat) (h : k < l.length) : firstOf (l.drop k) = if l.getD k 0 = 0 then firstOf (l.drop (k + 1)) else l.getD k 0 := by
  rw [List.drop_eq_getElem_cons h, firstOf]; simp [List.getD_eq_getElem?_getD, h]
theorem first_eq {N : Nat} (l : List Int) (hl : l.length < 4611686018427387904) (hN : l.length < N) : code_first N l = some (firstOf l) := by
  unfold code_first jn
  refine (rds_up1 l.length _ (fun k => some (firstOf (l.drop k))) (fun k rec hk hr => ?_) (fun rec => ?_) hN).trans (by simp)
  · unfold code_first.b1
    rw [br_pos (by simpa using hk), chk_pos (by omega), w64_succ (by omega), hr, Int.toNat_natCast, firstOf_drop l k hk]
    by_cases h : l.getD k 0 = 0
    · rw [if_pos h, br_neg (by rw [h]; rfl)]
    · rw [if_neg h, br_pos (by simpa only [bne_iff_ne] using h)]
  · unfold code_first.b1
    rw [br_neg (by simp)]; simp [firstOf]

/-- Where the first element lies that a test tells. -/
def indexOf (f : Int → Bool) : List Int → Nat → Int
  | [], _ => -1
  | x :: l, k => if f x then k else indexOf f l (k + 1)
theorem indexOf_drop (f : Int → Bool) (l : List Int) (k : Nat) (h : k < l.length) : indexOf f (l.drop k) k = if f (l.getD k 0) then (k : Int) else indexOf f (l.drop (k + 1)) (k + 1) := by
  rw [List.drop_eq_getElem_cons h, indexOf]; simp [List.getD_eq_getElem?_getD, h]
theorem IndexFunc_eq {N : Nat} (l : List Int) (g : Int → Option Bool) (f : Int → Bool) (hg : ∀ x ∈ l, g x = some (f x)) (hl : l.length < 4611686018427387904) (hN : l.length < N) : slices_IndexFunc_ii N l g = some (indexOf f l 0) := by
  unfold slices_IndexFunc_ii jn
  refine (rds_up1 l.length _ (fun k => some (indexOf f (l.drop k) k)) (fun k rec hk hr => ?_) (fun rec => ?_) hN).trans (by simp)
  · unfold slices_IndexFunc_ii.b1
    have hm : l.getD k 0 ∈ l := by simp [List.getD_eq_getElem?_getD, hk]
    rw [br_pos (by simpa using hk), chk_pos (by omega), w64_succ (by omega), hr, Int.toNat_natCast, hg _ hm, bnd_val, indexOf_drop f l k hk]
    cases h : f (l.getD k 0) <;> simp
  · unfold slices_IndexFunc_ii.b1
    rw [br_neg (by simp)]; simp [indexOf]
theorem indexOf_ge (f : Int → Bool) (l : List Int) (k : Nat) : indexOf f l k ≥ 0 ↔ l.any f = true := by
  induction l generalizing k with
  | nil => simp [indexOf]
  | cons x l ih =>
    rw [indexOf, List.any_cons]
    by_cases h : f x = true
    · simp [h]
    · rw [if_neg h, ih]; simp [h]
theorem indexOf_any (f : Int → Bool) (l : List Int) (k : Nat) : decide (indexOf f l k ≥ 0) = l.any f := by
  rw [Bool.eq_iff_iff, decide_eq_true_iff]; exact indexOf_ge f l k
theorem ContainsFunc_eq {N : Nat} (l : List Int) (g : Int → Option Bool) (f : Int → Bool) (hg : ∀ x ∈ l, g x = some (f x)) (hl : l.length < 4611686018427387904) (hN : l.length < N) : slices_ContainsFunc_ii N l g = some (l.any f) := by
  unfold slices_ContainsFunc_ii
  rw [IndexFunc_eq l g f hg hl hN, bnd_val, indexOf_any]
theorem listErr_eq {N : Nat} (l : List Int) (most e : Int) (g : Int → Option Bool) (f : Int → Bool) (hg : ∀ x ∈ l, g x = some (f x)) (hl : l.length < 4611686018427387904) (hN : l.length < N) (hN3 : 3 < N) :
    code_listErr N l most g e = some (if l.length = 0 then 10 else if (l.length : Int) > most then 8 else if l.all f then 0 else e) := by
  unfold code_listErr
  rw [ContainsFunc_eq l _ (fun x => !f x) (fun x hx => by simp [code_listErr_1, hg x hx]) hl hN, bnd_val]
  simp only [unless_eq, bnd_val]
  rw [first_eq _ (by simp) (by simpa using hN3), bnd_val]
  congr 1
  have ha : (!(l.any fun x => !f x)) = l.all f := by simp [List.all_eq_not_any_not]
  rw [ha]
  by_cases h0 : l.length = 0
  · simp [firstOf, h0]
  · by_cases h1 : (l.length : Int) > most
    · have : ¬ (l.length : Int) ≤ most := by omega
      simp [firstOf, h0, h1, this]
    · have : (l.length : Int) ≤ most := by omega
      have h2 : 0 < l.length := by omega
      rw [if_neg h0, if_neg h1, decide_eq_true (show (l.length : Int) > 0 by omega), decide_eq_true this]
      by_cases hf : l.all f = true
      · rw [if_pos hf]; rfl
      · rw [if_neg hf]
        simp only [firstOf, if_true]
        by_cases he : e = 0 <;> simp [he]
end Go.Sh

/-
  What the shallow functions of the code chapter come to: polar codes that are right.
-/
namespace Go.Sh
open Go.PW

theorem isBit_eq (N : Nat) (x : Int) : code_isBit N x = some (x == 0 || x == 1) := rfl
def isBitB (x : Int) : Bool := x == 0 || x == 1
def listErr (most : Int) (f : Int → Bool) (e : Int) (l : List Int) : Int := if l.length = 0 then 10 else if (l.length : Int) > most then 8 else if l.all f then 0 else e
theorem bitsErr_eq {N : Nat} (l : List Int) (hl : l.length < 4611686018427387904) (hN : l.length < N) (hN3 : 3 < N) : code_bitsErr N l = some (listErr 200 isBitB 15 l) := by
  unfold code_bitsErr
  rw [listErr_eq l _ _ (fun y0 => code_isBit N y0) isBitB (fun x _ => rfl) hl hN hN3, bnd_val]; rfl
def isSoftB (x : Int) : Bool := decide (-1000000 ≤ x) && decide (x ≤ 1000000)
theorem softErr_eq {N : Nat} (l : List Int) (hl : l.length < 4611686018427387904) (hN : l.length < N) (hN3 : 3 < N) : code_softErr N l = some (listErr 400 isSoftB 2 l) := by
  unfold code_softErr
  rw [listErr_eq l _ _ (fun y0 => code_upTo_1 N y0 1000000) isSoftB (fun x _ => by rw [code_upTo_1, w64_id (by omega), within_eq]; rfl) hl hN hN3, bnd_val]; rfl

theorem shl1_pow {p : Nat} (h : p ≤ 40) : shlI 1 (p : Int) = ((2 ^ p : Nat) : Int) := by
  have := shlI_nat (a := 1) (b := p) (by have := Nat.pow_le_pow_right (n := 2) (by omega) h; omega) (by omega)
  simpa using this
/-- What is wrong with the places of a polar code. -/
def placesErr (m : Int) : Int → List Int → Int
  | _, [] => 0
  | b, x :: l => if ¬(0 ≤ x ∧ x ≤ m) then 2 else if x ≤ b then 9 else placesErr m x l
def polarErr (p : Int) (l : List Int) : Int := if ¬(0 ≤ p ∧ p ≤ 6) then 2 else if l.length = 0 then 10 else placesErr (2 ^ p.toNat - 1) (-1) l
theorem placesErr_drop (m b : Int) (l : List Int) (k : Nat) (h : k < l.length) : placesErr m b (l.drop k) = if ¬(0 ≤ l.getD k 0 ∧ l.getD k 0 ≤ m) then 2 else if l.getD k 0 ≤ b then 9 else placesErr m (l.getD k 0) (l.drop (k + 1)) := by
  rw [List.drop_eq_getElem_cons h, placesErr]; simp [List.getD_eq_getElem?_getD, h]
/-- A loop that counts up, its number behind its state. -/
theorem rds_upR {σ R : Type} (len : Nat) (b : (σ × Int → Option R) → σ × Int → Option R) (F : Nat → σ → Option R)
    (hstep : ∀ k s rec, k < len → (∀ s', rec (s', ((k + 1 : Nat) : Int)) = F (k + 1) s') → b rec (s, (k : Int)) = F k s) (hend : ∀ s rec, b rec (s, (len : Int)) = F len s)
    {N : Nat} (hN : len < N) (s : σ) : rds b N (s, 0) = F 0 s := by
  have h := rds_spec (b := b) (fun x => ∃ k : Nat, k ≤ len ∧ x.2 = k) (fun x => len - x.2.toNat) (fun x => F x.2.toNat x.1) (fun rec x hI hrec => ?_) N (s, 0) ⟨0, Nat.zero_le _, rfl⟩ (by simp; omega)
  · simpa using h
  · obtain ⟨k, hk, hx⟩ := hI
    obtain ⟨t, i⟩ := x
    simp only at hx
    subst hx
    by_cases hkl : k < len
    · rw [hstep k t rec hkl (fun s' => ?_)]
      · simp
      · have := hrec (s', ((k + 1 : Nat) : Int)) ⟨k + 1, hkl, rfl⟩ (by simp only [Int.toNat_natCast]; omega)
        simpa using this
    · have : k = len := by omega
      subst this
      rw [hend t rec]; simp
theorem pow_le6 {p : Nat} (h : p ≤ 6) : 2 ^ p ≤ 64 := Nat.pow_le_pow_right (n := 2) (by omega) h
theorem CheckPolar_eq {N : Nat} (p : Int) (l : List Int) (hl : l.length < 4611686018427387904) (hN : l.length < N) (hN3 : 3 < N) : code_CheckPolar N p l = some (polarErr p l) := by
  unfold code_CheckPolar
  simp only [code_isPower, within_eq, bnd_val, unless_eq]
  rw [first_eq _ (by simp) (by simp; omega), bnd_val]
  by_cases hp : 0 ≤ p ∧ p ≤ 6
  · obtain ⟨q, rfl⟩ := Int.eq_ofNat_of_zero_le hp.1
    have hq : q ≤ 6 := by omega
    have h64 := pow_le6 hq
    have hb : (decide (0 ≤ (q : Int)) && decide ((q : Int) ≤ 6)) = true := by simp; omega
    rw [hb]
    by_cases h0 : l.length = 0
    · have : decide ((l.length : Int) > 0) = false := by simp [h0]
      rw [this, br_pos (by decide)]
      rw [polarErr, if_neg (show ¬¬(0 ≤ (q : Int) ∧ (q : Int) ≤ 6) from fun h => h hp), if_pos h0]; rfl
    · have : decide ((l.length : Int) > 0) = true := by simp; omega
      rw [this, br_neg (by decide), jn]
      refine (rds_upR l.length _ (fun k b => some (placesErr (2 ^ q - 1) b (l.drop k))) (fun k b rec hk hr => ?_) (fun b rec => ?_) hN (-1)).trans ?_
      · unfold code_CheckPolar.b1
        simp only [within_eq, unless_eq, bnd_val, Int.toNat_natCast]
        have hw : w64 (shlI 1 (q : Int) - 1) = 2 ^ q - 1 := by
          rw [shl1_pow (by omega)]
          have : ((2 ^ q : Nat) : Int) ≤ 64 := by exact_mod_cast h64
          have h0 : (0 : Int) ≤ ((2 ^ q : Nat) : Int) := Int.natCast_nonneg _
          have e : ((2 ^ q : Nat) : Int) = 2 ^ q := by push_cast; rfl
          rw [e] at this h0 ⊢
          exact w64_id (by omega)
        rw [br_pos (by simpa using hk), chk_pos (by omega), chk_pos (by omega), first_eq _ (by simp) (by simp; omega), bnd_val, hw, w64_succ (by omega), hr, placesErr_drop _ _ _ _ hk]
        by_cases h1 : 0 ≤ l.getD k 0 ∧ l.getD k 0 ≤ 2 ^ q - 1
        · have h1b : (decide (0 ≤ l.getD k 0) && decide (l.getD k 0 ≤ 2 ^ q - 1)) = true := by rw [Bool.and_eq_true, decide_eq_true_iff, decide_eq_true_iff]; exact h1
          rw [h1b, if_neg (show ¬¬(0 ≤ l.getD k 0 ∧ l.getD k 0 ≤ 2 ^ q - 1) from fun h => h h1)]
          by_cases h2 : l.getD k 0 ≤ b
          · rw [if_pos h2, decide_eq_false (show ¬ l.getD k 0 > b by omega)]; rfl
          · rw [if_neg h2, decide_eq_true (show l.getD k 0 > b by omega)]; rfl
        · have h1b : (decide (0 ≤ l.getD k 0) && decide (l.getD k 0 ≤ 2 ^ q - 1)) = false := by rw [← Bool.not_eq_true, Bool.and_eq_true, decide_eq_true_iff, decide_eq_true_iff]; exact h1
          rw [h1b, if_pos h1]; rfl
      · show br (decide ((l.length : Int) < l.length)) _ _ = _
        rw [br_neg (by simp)]; simp [placesErr]
      · simp only [polarErr, List.drop_zero, Int.toNat_natCast]
        rw [if_neg (by omega), if_neg h0]
  · have hb : (decide (0 ≤ p) && decide (p ≤ 6)) = false := by rw [← Bool.not_eq_true, Bool.and_eq_true, decide_eq_true_iff, decide_eq_true_iff]; exact hp
    rw [hb, polarErr, if_pos hp]; rfl
end Go.Sh

/-
  What the shallow functions of the code chapter come to: the reference's checks.
-/
namespace Go.Sh
open Go.PW

theorem Within_eq (N : Nat) (n lo hi : Int) : base_Within N n lo hi = some (decide (lo ≤ n) && decide (n ≤ hi)) := rfl
theorem power_eq {N n : Nat} (hn : n ≤ 40) (hN : n < N) : ref02_power N n = some ((2 ^ n : Nat) : Int) := by
  have hp : ∀ k, k ≤ 40 → 2 ^ k ≤ 2 ^ 40 := fun k hk => Nat.pow_le_pow_right (by omega) hk
  unfold ref02_power jn
  refine (rds_spec (b := ref02_power.b1 N n fun out => some out) (fun x : Int × Int => ∃ k : Nat, k ≤ n ∧ x = (((2 ^ k : Nat) : Int), (k : Int))) (fun x => n - x.2.toNat) (fun _ => some ((2 ^ n : Nat) : Int)) (fun rec x hI hrec => ?_) N (1, 0) ⟨0, by simp, by simp⟩ (by simp; omega))
  obtain ⟨k, hk, rfl⟩ := hI
  show br (decide ((k : Int) < n)) _ _ = _
  by_cases h : k < n
  · have h1 := hp k (by omega)
    have e : w64 (2 * ((2 ^ k : Nat) : Int)) = ((2 ^ (k + 1) : Nat) : Int) := by
      have : (2 * ((2 ^ k : Nat) : Int)) = ((2 ^ (k + 1) : Nat) : Int) := by rw [Nat.pow_succ]; push_cast; omega
      rw [this]; exact w64_nat (by have := hp (k + 1) (by omega); omega)
    rw [br_pos (by simpa using h), w64_succ (by omega), e]
    exact hrec _ ⟨k + 1, h, rfl⟩ (by simp only [Int.toNat_natCast]; omega)
  · have : k = n := by omega
    subst this
    rw [br_neg (by simp)]
theorem Length_eq {N n : Nat} (l : List Int) (hn : n ≤ 40) (hN : n < N) : ref02_Length N n l = some ((2 ^ n : Nat) : Int) := by
  unfold ref02_Length; rw [power_eq hn hN]; rfl

theorem refCheckPolar_eq {N : Nat} (p : Int) (l : List Int) (hl : l.length < 4611686018427387904) (hN : l.length < N) (hN3 : 6 < N) : ref02_CheckPolar N p l = some (polarErr p l) := by
  unfold ref02_CheckPolar
  rw [Within_eq, bnd_val]
  by_cases hp : 0 ≤ p ∧ p ≤ 6
  · obtain ⟨q, rfl⟩ := Int.eq_ofNat_of_zero_le hp.1
    have hq : q ≤ 6 := by omega
    have h64 := pow_le6 hq
    have hb : (decide (0 ≤ (q : Int)) && decide ((q : Int) ≤ 6)) = true := by simp; omega
    rw [hb, br_neg (by rfl), polarErr, if_neg (show ¬¬(0 ≤ (q : Int) ∧ (q : Int) ≤ 6) from fun h => h hp)]
    by_cases h0 : l.length = 0
    · rw [br_pos (by simp [h0]), if_pos h0]
    · rw [br_neg (by simpa using h0), if_neg h0, jn, Int.toNat_natCast]
      have hw : w64 (((2 ^ q : Nat) : Int) - 1) = 2 ^ q - 1 := by
        have : ((2 ^ q : Nat) : Int) ≤ 64 := by exact_mod_cast h64
        have h0 : (0 : Int) ≤ ((2 ^ q : Nat) : Int) := Int.natCast_nonneg _
        have e : ((2 ^ q : Nat) : Int) = 2 ^ q := by push_cast; rfl
        rw [e] at this h0 ⊢
        exact w64_id (by omega)
      refine (rds_up1 l.length _ (fun k => some (placesErr (2 ^ q - 1) (if k = 0 then -1 else l.getD (k - 1) 0) (l.drop k))) (fun k rec hk hr => ?_) (fun rec => ?_) hN).trans (by simp)
      · unfold ref02_CheckPolar.b1
        rw [br_pos (by simpa using hk), chk_pos (by omega), power_eq (by omega) (by omega), bnd_val, hw, Within_eq, bnd_val, placesErr_drop _ _ _ _ hk, Int.toNat_natCast]
        by_cases h1 : 0 ≤ l.getD k 0 ∧ l.getD k 0 ≤ 2 ^ q - 1
        · have h1b : (decide (0 ≤ l.getD k 0) && decide (l.getD k 0 ≤ 2 ^ q - 1)) = true := by rw [Bool.and_eq_true, decide_eq_true_iff, decide_eq_true_iff]; exact h1
          rw [h1b, if_neg (show ¬¬(0 ≤ l.getD k 0 ∧ l.getD k 0 ≤ 2 ^ q - 1) from fun h => h h1), br_neg (by rfl), w64_succ (by omega), hr]
          by_cases hk0 : k = 0
          · subst hk0
            rw [chk_pos (by simp), chk_pos (by simp), br_neg (by simp), if_pos rfl, if_neg (show ¬ l.getD 0 0 ≤ -1 by omega)]
            rfl
          · obtain ⟨j, rfl⟩ : ∃ j, k = j + 1 := ⟨k - 1, by omega⟩
            have hj : w64 (((j + 1 : Nat) : Int) - 1) = (j : Int) := by rw [w64_id (by omega)]; omega
            rw [hj, chk_pos (by omega), chk_pos (by omega), if_neg hk0, Int.toNat_natCast]
            have hd : decide (((j + 1 : Nat) : Int) > 0) = true := by simp only [decide_eq_true_iff]; omega
            rw [hd, Bool.true_and, show j + 1 - 1 = j from rfl]
            by_cases h2 : l.getD (j + 1) 0 ≤ l.getD j 0
            · rw [if_pos h2, br_pos (by simpa using h2)]
            · rw [if_neg h2, br_neg (by simpa using h2)]; simp
        · have h1b : (decide (0 ≤ l.getD k 0) && decide (l.getD k 0 ≤ 2 ^ q - 1)) = false := by rw [← Bool.not_eq_true, Bool.and_eq_true, decide_eq_true_iff, decide_eq_true_iff]; exact h1
          rw [h1b, if_pos h1]; rfl
      · show br (decide ((l.length : Int) < l.length)) _ _ = _
        rw [br_neg (by simp)]; simp [placesErr]
  · have hb : (decide (0 ≤ p) && decide (p ≤ 6)) = false := by rw [← Bool.not_eq_true, Bool.and_eq_true, decide_eq_true_iff, decide_eq_true_iff]; exact hp
    rw [hb, polarErr, if_pos hp]; rfl
end Go.Sh

/-
  What the shallow functions of the code chapter come to: bits, copies, comparisons.
-/
namespace Go.Sh
open Go.PW

theorem AreBits_eq {N : Nat} (l : List Int) (hl : l.length < 4611686018427387904) (hN : l.length < N) : base_AreBits N l = some (l.all isBitB) := by
  unfold base_AreBits jn
  refine (rds_up1 l.length _ (fun k => some ((l.drop k).all isBitB)) (fun k rec hk hr => ?_) (fun rec => ?_) hN).trans (by simp)
  · unfold base_AreBits.b1
    rw [br_pos (by simpa using hk), chk_pos (by omega), chk_pos (by intro _; omega), w64_succ (by omega), hr, Int.toNat_natCast, List.drop_eq_getElem_cons hk, List.all_cons]
    have e : l.getD k 0 = l[k] := by simp [List.getD_eq_getElem?_getD, hk]
    rw [e]
    by_cases h0 : l[k] = 0
    · rw [br_neg (by simp [h0])]; simp [isBitB, h0]
    · by_cases h1 : l[k] = 1
      · rw [br_neg (by simp [h1])]; simp [isBitB, h1]
      · rw [br_pos (by simp [h0, h1])]; simp [isBitB, h0, h1]
  · show br (decide ((l.length : Int) < l.length)) _ _ = _
    rw [br_neg (by simp)]; simp
theorem refBitsErr_eq {N : Nat} (l : List Int) (hl : l.length < 4611686018427387904) (hN : l.length < N) : ref02_BitsErr N l = some (listErr 200 isBitB 15 l) := by
  unfold ref02_BitsErr ref02_kindErr listErr
  rw [AreBits_eq l hl hN]
  by_cases h0 : l.length = 0
  · rw [br_pos (by simp [h0]), if_pos h0]
  · rw [br_neg (by simpa using h0), if_neg h0]
    by_cases h1 : (l.length : Int) > 200
    · rw [br_pos (by simpa using h1), if_pos h1]
    · rw [br_neg (by simpa using h1), if_neg h1]
      simp only [bnd_val]
      cases h : l.all isBitB <;> rfl
theorem CopyInts_eq (N : Nat) (l : List Int) (hl : l.length ≤ 1000000000) : base_CopyInts N l = some l := by
  unfold base_CopyInts
  rw [chk_pos (by simpa using hl)]; rfl
theorem CopyPolar_eq (N : Nat) (p : Int) (l : List Int) (hl : l.length ≤ 1000000000) : ref02_CopyPolar N p l = some (p, l) := by
  unfold ref02_CopyPolar
  rw [CopyInts_eq N l hl, bnd_val]
theorem Mod_eq (N : Nat) (n m : Int) (hn : -9223372036854775808 ≤ n ∧ n ≤ 9223372036854775807) (hm : 0 < m ∧ m ≤ 4611686018427387904) : base_Mod N n m = some (n % m) := by
  unfold base_Mod
  rw [chk_pos (by omega)]
  have h1 := Int.tmod_eq_emod (a := n) (b := m)
  have h2 : m ≠ 0 := by omega
  have h3 := Int.emod_nonneg n h2
  have h4 := Int.emod_lt_of_pos n hm.1
  by_cases h : n.tmod m < 0
  · rw [br_pos (by simpa using h)]
    have e : n.tmod m + m = n % m := by
      rw [h1] at h ⊢
      split at h <;> split <;> omega
    rw [e, w64_id (by omega)]
  · rw [br_neg (by simpa using h)]
    have e : n.tmod m = n % m := by
      rw [h1] at h ⊢
      split at h <;> split <;> omega
    rw [e]
theorem Ints_eq {N : Nat} (a b : List Int) (hl : a.length < 4611686018427387904) (hN : a.length < N) : base_Ints N a b = some (decide (a = b)) := by
  unfold base_Ints
  by_cases hlen : a.length = b.length
  · rw [br_neg (by simp [hlen]), jn]
    refine (rds_up1 a.length _ (fun k => some (decide (a.drop k = b.drop k))) (fun k rec hk hr => ?_) (fun rec => ?_) hN).trans (by simp)
    · unfold base_Ints.b1
      rw [br_pos (by simpa using hk), chk_pos (by omega), chk_pos (by omega), w64_succ (by omega), hr, Int.toNat_natCast]
      have hkb : k < b.length := by omega
      have ea : a.getD k 0 = a[k] := by simp [List.getD_eq_getElem?_getD, hk]
      have eb : b.getD k 0 = b[k] := by simp [List.getD_eq_getElem?_getD, hkb]
      have hd : (a.drop k = b.drop k) = (a[k] = b[k] ∧ a.drop (k + 1) = b.drop (k + 1)) := by
        rw [List.drop_eq_getElem_cons hk, List.drop_eq_getElem_cons hkb, List.cons.injEq]
      rw [ea, eb]; simp only [hd]
      by_cases h : a[k] = b[k]
      · rw [br_neg (by rw [h]; simp)]; simp [h]
      · rw [br_pos (by simpa using h)]; simp [h]
    · show br (decide ((a.length : Int) < a.length)) _ _ = _
      rw [br_neg (by simp)]; simp [hlen]
  · rw [br_pos (by rw [bne_iff_ne]; omega)]
    have : a ≠ b := fun e => hlen (by rw [e])
    simp [this]
end Go.Sh

/-
  What the shallow functions of the code chapter come to: the word of a polar code.
-/
namespace Go.Sh
open Go.PW

/-- One round of the word, place by place. -/
noncomputable def wordAt (s : Nat) (l : List Int) (i : Nat) : Int := if i.testBit s then l.getD i 0 else xorI (l.getD i 0) (l.getD (i + 2 ^ s) 0)
noncomputable def stepL (s : Nat) (l : List Int) : List Int := (List.range l.length).map (wordAt s l)
theorem stepL_length (s : Nat) (l : List Int) : (stepL s l).length = l.length := by simp [stepL]
noncomputable def wordIn {R : Type} (step : Int) (b13 : List Int) (K_2 : List Int → Option R) (rec2 : Int × List Int → Option R) : Int × List Int → Option R := fun (t13, b15) =>
  br (decide (t13 < (b13.length : Int))) (
  br ((andI t13 step == (0 : Int))) (
  chk (0 ≤ t13 ∧ t13 < (b15.length : Int)) <|
  chk (0 ≤ w64 (t13 + step) ∧ w64 (t13 + step) < (b15.length : Int)) <|
  chk (0 ≤ t13 ∧ t13 < (b15.length : Int)) <|
  rec2 (w64 (t13 + (1 : Int)), (b15.set t13.toNat (xorI (b15.getD t13.toNat 0) (b15.getD ((w64 (t13 + step)).toNat) 0))))) (
  rec2 (w64 (t13 + (1 : Int)), b15))) (
  K_2 b15)
theorem encode_b3 (N : Nat) : code_encode.b3 N = wordIn := rfl
theorem cancel_b3 (N : Nat) : code_cancel.b3 N = wordIn := rfl

theorem and_bit (n i : Nat) : n &&& 2 ^ i = if n.testBit i then 2 ^ i else 0 := by
  refine Nat.eq_of_testBit_eq fun j => ?_
  rw [Nat.testBit_and, Nat.testBit_two_pow]
  by_cases h : i = j
  · subst h
    cases ht : n.testBit i <;> simp [Nat.testBit_two_pow]
  · cases ht : n.testBit i <;> simp [Nat.testBit_two_pow, h]
theorem clear_lt {m s i : Nat} (hs : s < m) (hi : i < 2 ^ m) (hb : i.testBit s = false) : i + 2 ^ s < 2 ^ m := by
  obtain ⟨d, rfl⟩ : ∃ d, m = s + 1 + d := ⟨m - (s + 1), by omega⟩
  have h0 : i / 2 ^ s % 2 ≠ 1 := by simpa [Nat.testBit_eq_decide_div_mod_eq] using hb
  have hp : 0 < 2 ^ s := Nat.two_pow_pos s
  have e : 2 ^ (s + 1 + d) = 2 ^ s * (2 * 2 ^ d) := by rw [Nat.pow_add, Nat.pow_succ, Nat.mul_assoc]
  rw [e] at hi ⊢
  have h1 : i / 2 ^ s < 2 * 2 ^ d := Nat.div_lt_of_lt_mul hi
  have h2 := Nat.div_add_mod i (2 ^ s)
  have h3 := Nat.mod_lt i hp
  have h4 : i / 2 ^ s + 2 ≤ 2 * 2 ^ d := by omega
  have h5 : 2 ^ s * (i / 2 ^ s + 2) ≤ 2 ^ s * (2 * 2 ^ d) := Nat.mul_le_mul_left _ h4
  rw [Nat.mul_add] at h5
  omega
theorem ext_getD {a b : List Int} (h : a.length = b.length) (he : ∀ j, j < a.length → a.getD j 0 = b.getD j 0) : a = b := by
  refine List.ext_getElem h fun j h1 h2 => ?_
  have := he j h1
  simpa [List.getD_eq_getElem?_getD, h1, h2] using this
theorem stepL_getD (s : Nat) (l : List Int) (j : Nat) (h : j < l.length) : (stepL s l).getD j 0 = wordAt s l j := by
  simp [stepL, List.getD_eq_getElem?_getD, h]
theorem wordIn_eq {R : Type} (m s : Nat) (hs : s < m) (hm : m ≤ 30) (l : List Int) (hl : l.length = 2 ^ m) (K : List Int → Option R) {N : Nat} (hN : 2 ^ m < N) :
    rds (wordIn ((2 ^ s : Nat) : Int) l K) N (0, l) = K (stepL s l) := by
  have hbig : 2 ^ m ≤ 2 ^ 30 := Nat.pow_le_pow_right (by omega) hm
  have hsm : 2 ^ s < 2 ^ m := Nat.pow_lt_pow_right (by omega) hs
  have hps : (0 : Int) < 2 ^ s := Int.pow_pos (by omega)
  refine rds_spec (fun x : Int × List Int => ∃ k : Nat, k ≤ l.length ∧ x.1 = k ∧ x.2.length = l.length ∧ ∀ j, j < l.length → x.2.getD j 0 = if j < k then wordAt s l j else l.getD j 0) (fun x => l.length - x.1.toNat) (fun _ => K (stepL s l)) (fun rec x hI hrec => ?_) N (0, l) ⟨0, Nat.zero_le _, rfl, rfl, fun j hj => by simp⟩ (by simp; omega)
  obtain ⟨k, hk, hx, hbl, hb⟩ := hI
  obtain ⟨i, b⟩ := x
  simp only at hx hbl hb
  subst hx
  show br (decide ((k : Int) < (l.length : Int))) _ _ = _
  by_cases hkl : k < l.length
  · rw [br_pos (by simpa using hkl), w64_succ (by omega), andI_nat (by omega) (by omega)]
    have hand : (((k &&& 2 ^ s : Nat) : Int) == 0) = !k.testBit s := by
      rw [and_bit]
      cases k.testBit s
      · rfl
      · have := Nat.two_pow_pos s
        simp only [if_true, Bool.not_true, beq_eq_false_iff_ne]
        omega
    rw [hand]
    cases ht : k.testBit s with
    | false =>
      have hlt := clear_lt hs (by omega) ht
      rw [br_pos (by rfl), chk_pos (by omega)]
      have e : w64 ((k : Int) + ((2 ^ s : Nat) : Int)) = ((k + 2 ^ s : Nat) : Int) := by
        have : ((k : Int) + ((2 ^ s : Nat) : Int)) = ((k + 2 ^ s : Nat) : Int) := by push_cast; rfl
        rw [this]; exact w64_nat (by omega)
      have hlb : k + 2 ^ s < b.length := by rw [hbl, hl]; exact hlt
      rw [e, chk_pos ⟨Int.natCast_nonneg _, Int.ofNat_lt.2 hlb⟩, chk_pos (by omega), Int.toNat_natCast, Int.toNat_natCast]
      refine hrec _ ⟨k + 1, hkl, rfl, by simpa using hbl, fun j hj => ?_⟩ (by simp only [Int.toNat_natCast]; omega)
      simp only
      by_cases hjk : j = k
      · subst hjk
        rw [if_pos (Nat.lt_succ_self _)]
        simp only [List.getD_eq_getElem?_getD, List.getElem?_set_self (show j < b.length by omega), Option.getD_some]
        have h1 := hb j hj
        have h2 := hb (j + 2 ^ s) (by omega)
        rw [if_neg (by omega)] at h1
        rw [if_neg (show ¬ j + 2 ^ s < j from by have := Nat.two_pow_pos s; omega)] at h2
        rw [← List.getD_eq_getElem?_getD, ← List.getD_eq_getElem?_getD, h1, h2, wordAt, ht]; rfl
      · have h1 := hb j hj
        rw [List.getD_eq_getElem?_getD, List.getElem?_set_ne (Ne.symm hjk), ← List.getD_eq_getElem?_getD, h1]
        by_cases hlt2 : j < k
        · rw [if_pos hlt2, if_pos (show j < k + 1 by omega)]
        · rw [if_neg hlt2, if_neg (show ¬ j < k + 1 by omega)]
    | true =>
      rw [br_neg (by rfl)]
      refine hrec _ ⟨k + 1, hkl, rfl, hbl, fun j hj => ?_⟩ (by simp only [Int.toNat_natCast]; omega)
      have h1 := hb j hj
      simp only
      rw [h1]
      by_cases hjk : j = k
      · subst hjk
        rw [if_neg (by omega), if_pos (by omega), wordAt, ht]; rfl
      · by_cases hlt2 : j < k
        · rw [if_pos hlt2, if_pos (show j < k + 1 by omega)]
        · rw [if_neg hlt2, if_neg (show ¬ j < k + 1 by omega)]
  · rw [br_neg (by simpa using hkl)]
    have : b = stepL s l := ext_getD (by rw [hbl, stepL_length]) fun j hj => by
      rw [hbl] at hj
      rw [hb j hj, if_pos (by omega), stepL_getD s l j hj]
    rw [this]

noncomputable def wordOut {R : Type} (N : Nat) (K_1 : List Int → Option R) (rec1 : Int × List Int → Option R) : Int × List Int → Option R := fun (step, b13) =>
  br (decide (step < (b13.length : Int))) (
  jn (τ := List Int) (fun (b14 : List Int) =>
    rec1 (w64 (step * (2 : Int)), b14)) fun K_2 =>
  rds (wordIn step b13 K_2) N ((0 : Int), b13)) (
  K_1 b13)
theorem encode_b2 (N : Nat) : code_encode.b2 N = wordOut N := rfl
theorem cancel_b2 (N : Nat) : code_cancel.b2 N = wordOut N := rfl
/-- The word, by rounds. -/
noncomputable def wordL : Nat → List Int → List Int
  | 0, l => l
  | m + 1, l => stepL m (wordL m l)
theorem wordL_length : ∀ (m : Nat) (l : List Int), (wordL m l).length = l.length
  | 0, _ => rfl
  | m + 1, l => by rw [wordL, stepL_length, wordL_length m l]
theorem wordOut_eq {R : Type} (m : Nat) (hm : m ≤ 30) (l : List Int) (hl : l.length = 2 ^ m) (K : List Int → Option R) {N : Nat} (hN : 2 ^ m < N) :
    rds (wordOut N K) N (1, l) = K (wordL m l) := by
  have hbig : 2 ^ m ≤ 2 ^ 30 := Nat.pow_le_pow_right (by omega) hm
  refine rds_spec (fun x : Int × List Int => ∃ s : Nat, s ≤ m ∧ x = (((2 ^ s : Nat) : Int), wordL s l)) (fun x => 2 ^ m - x.1.toNat) (fun _ => K (wordL m l)) (fun rec x hI hrec => ?_) N (1, l) ⟨0, Nat.zero_le _, rfl⟩ (by simp; omega)
  obtain ⟨s, hs, rfl⟩ := hI
  show br (decide (((2 ^ s : Nat) : Int) < ((wordL s l).length : Int))) _ _ = _
  rw [wordL_length, hl]
  by_cases h : s < m
  · have hsm : 2 ^ s < 2 ^ m := Nat.pow_lt_pow_right (by omega) h
    rw [br_pos (by rw [decide_eq_true_iff]; exact Int.ofNat_lt.2 hsm), jn, wordIn_eq m s h hm _ (by rw [wordL_length, hl]) _ hN]
    have e : w64 (((2 ^ s : Nat) : Int) * 2) = ((2 ^ (s + 1) : Nat) : Int) := by
      have h1 : (((2 ^ s : Nat) : Int) * 2) = ((2 ^ (s + 1) : Nat) : Int) := by rw [Nat.pow_succ]; push_cast; rfl
      have h2 : 2 ^ (s + 1) ≤ 2 ^ m := Nat.pow_le_pow_right (by omega) h
      rw [h1]; exact w64_nat (by omega)
    rw [e]
    refine hrec _ ⟨s + 1, h, rfl⟩ ?_
    have h1 : 2 ^ s < 2 ^ (s + 1) := Nat.pow_lt_pow_right (by omega) (by omega)
    simp only [Int.toNat_natCast]
    omega
  · have : s = m := by omega
    subst this
    rw [br_neg (by simp)]
end Go.Sh

/-
  What the shallow functions of the code chapter come to: encoding.
-/
namespace Go.Sh
open Go.PW

/-- Bits at their places. -/
def place : List Int → List Int → List Int → List Int
  | x :: is, y :: ys, b => place is ys (b.set x.toNat y)
  | _, _, b => b
theorem place_length : ∀ (is ys b : List Int), (place is ys b).length = b.length
  | [], _, b => by simp [place]
  | _ :: _, [], b => by simp [place]
  | x :: is, y :: ys, b => by rw [place, place_length is ys]; simp
theorem getD_eq {l : List Int} {k : Nat} (h : k < l.length) : l.getD k 0 = l[k] := by simp [List.getD_eq_getElem?_getD, h]
theorem encode_eq {N q : Nat} (hq : q ≤ 6) (info bits : List Int) (hlen : bits.length = info.length) (hin : ∀ x ∈ info, 0 ≤ x ∧ x < ((2 ^ q : Nat) : Int)) (hl : info.length < 4611686018427387904) (hN : info.length < N) (hN2 : 64 < N) :
    code_encode N q info bits = some (wordL q (place info bits (List.replicate (2 ^ q) 0))) := by
  have h64 := pow_le6 hq
  unfold code_encode
  rw [chk_pos (by omega), shl1_pow (by omega), chk_pos ⟨Int.natCast_nonneg _, by have : ((2 ^ q : Nat) : Int) ≤ ((64 : Nat) : Int) := Int.ofNat_le.2 h64; omega⟩, jn, Int.toNat_natCast]
  refine rds_spec (fun x : Int × List Int => ∃ k : Nat, k ≤ info.length ∧ x.1 = k ∧ x.2.length = 2 ^ q ∧ place (info.drop k) (bits.drop k) x.2 = place info bits (List.replicate (2 ^ q) 0)) (fun x => info.length - x.1.toNat) (fun _ => some (wordL q (place info bits (List.replicate (2 ^ q) 0)))) (fun rec x hI hrec => ?_) N (0, List.replicate (2 ^ q) 0) ⟨0, Nat.zero_le _, rfl, by simp, rfl⟩ (by simp; omega)
  obtain ⟨k, hk, hx, hbl, hp⟩ := hI
  obtain ⟨i, b⟩ := x
  simp only at hx hbl hp
  subst hx
  show br (decide ((k : Int) < (info.length : Int))) _ _ = _
  by_cases hkl : k < info.length
  · have hm := hin info[k] (List.getElem_mem hkl)
    have hkb : k < bits.length := by omega
    rw [br_pos (by simpa using hkl), chk_pos (by omega), chk_pos (by omega), Int.toNat_natCast, getD_eq hkl, getD_eq hkb, chk_pos ⟨hm.1, by rw [hbl]; exact hm.2⟩, w64_succ (by omega)]
    refine hrec _ ⟨k + 1, hkl, rfl, by simpa using hbl, ?_⟩ (by simp only [Int.toNat_natCast]; omega)
    rw [← hp, List.drop_eq_getElem_cons hkl, List.drop_eq_getElem_cons hkb, place]
  · have hke : k = info.length := by omega
    have hb : b = place info bits (List.replicate (2 ^ q) 0) := by
      rw [← hp, hke, List.drop_length]
      simp [place]
    rw [br_neg (by simpa using hkl)]
    show rds (code_encode.b2 N fun b12 => some b12) N (1, b) = _
    rw [encode_b2, wordOut_eq q (by omega) b hbl _ (by omega), hb]
end Go.Sh

/-
  The word of a polar code, by halves.
-/
namespace Go.Sh
open Go.PW

theorem getD_left (a b : List Int) {j : Nat} (h : j < a.length) : (a ++ b).getD j 0 = a.getD j 0 := by
  rw [List.getD_eq_getElem?_getD, List.getElem?_append_left h, ← List.getD_eq_getElem?_getD]
theorem getD_right (a b : List Int) (i : Nat) : (a ++ b).getD (a.length + i) 0 = b.getD i 0 := by
  rw [List.getD_eq_getElem?_getD, List.getElem?_append_right (by omega), Nat.add_sub_cancel_left, ← List.getD_eq_getElem?_getD]
noncomputable def zipX (a b : List Int) : List Int := (List.range a.length).map fun i => xorI (a.getD i 0) (b.getD i 0)
theorem zipX_length (a b : List Int) : (zipX a b).length = a.length := by simp [zipX]
theorem zipX_getD (a b : List Int) {i : Nat} (h : i < a.length) : (zipX a b).getD i 0 = xorI (a.getD i 0) (b.getD i 0) := by
  simp [zipX, List.getD_eq_getElem?_getD, h]
theorem stepL_append {m s : Nat} (hs : s < m) (a b : List Int) (ha : a.length = 2 ^ m) (hb : b.length = 2 ^ m) : stepL s (a ++ b) = stepL s a ++ stepL s b := by
  refine ext_getD (by simp [stepL_length]) fun j hj => ?_
  rw [stepL_length, List.length_append] at hj
  rw [stepL_getD s _ j (by simpa using hj)]
  by_cases h : j < a.length
  · rw [getD_left _ _ (by rw [stepL_length]; exact h), stepL_getD s a j h, wordAt, wordAt, getD_left a b h]
    cases ht : j.testBit s with
    | true => rfl
    | false =>
      have := clear_lt hs (by omega) ht
      rw [getD_left a b (by omega)]
  · obtain ⟨i, rfl⟩ : ∃ i, j = a.length + i := ⟨j - a.length, by omega⟩
    have hi : i < b.length := by omega
    have e : (stepL s a ++ stepL s b).getD (a.length + i) 0 = (stepL s b).getD i 0 := by
      have := getD_right (stepL s a) (stepL s b) i
      rwa [stepL_length] at this
    rw [e, stepL_getD s b i hi, wordAt, wordAt, getD_right, Nat.add_assoc, getD_right]
    have ht : (a.length + i).testBit s = i.testBit s := by rw [ha]; exact Nat.testBit_two_pow_add_gt hs i
    rw [ht]
theorem stepL_last {m : Nat} (a b : List Int) (ha : a.length = 2 ^ m) (hb : b.length = 2 ^ m) : stepL m (a ++ b) = zipX a b ++ b := by
  refine ext_getD (by simp [stepL_length, zipX_length]) fun j hj => ?_
  rw [stepL_length, List.length_append] at hj
  rw [stepL_getD m _ j (by simpa using hj)]
  by_cases h : j < a.length
  · have ht : j.testBit m = false := Nat.testBit_lt_two_pow (by omega)
    rw [getD_left _ _ (by rw [zipX_length]; exact h), zipX_getD a b h, wordAt, ht, getD_left a b h]
    have : j + 2 ^ m = a.length + j := by omega
    rw [this, getD_right]; rfl
  · obtain ⟨i, rfl⟩ : ∃ i, j = a.length + i := ⟨j - a.length, by omega⟩
    have hi : i < b.length := by omega
    have e : (zipX a b ++ b).getD (a.length + i) 0 = b.getD i 0 := by
      have := getD_right (zipX a b) b i
      rwa [zipX_length] at this
    have ht : (a.length + i).testBit m = true := by
      rw [ha, Nat.testBit_two_pow_add_eq, Nat.testBit_lt_two_pow (by omega)]; rfl
    rw [e, wordAt, ht, getD_right]; rfl
theorem wordL_append (m : Nat) : ∀ (s : Nat), s ≤ m → ∀ (a b : List Int), a.length = 2 ^ m → b.length = 2 ^ m → wordL s (a ++ b) = wordL s a ++ wordL s b
  | 0, _, _, _, _, _ => rfl
  | s + 1, hs, a, b, ha, hb => by
    rw [wordL, wordL_append m s (by omega) a b ha hb, stepL_append (m := m) (s := s) (by omega) _ _ (by rw [wordL_length, ha]) (by rw [wordL_length, hb])]
    rfl
/-- **The word of two halves.** -/
theorem wordL_halves (m : Nat) (a b : List Int) (ha : a.length = 2 ^ m) (hb : b.length = 2 ^ m) : wordL (m + 1) (a ++ b) = zipX (wordL m a) (wordL m b) ++ wordL m b := by
  rw [wordL, wordL_append m m (Nat.le_refl _) a b ha hb, stepL_last _ _ (by rw [wordL_length, ha]) (by rw [wordL_length, hb])]
end Go.Sh

/-
  What the shallow functions of the code chapter come to: soft bits of a half.
-/
namespace Go.Sh
open Go.PW

def sgn (n : Int) : Int := if n < 0 then -1 else if n > 0 then 1 else 0
theorem size_eq (N : Nat) (n : Int) (h : -4611686018427387904 < n ∧ n < 4611686018427387904) : code_size N n = some (n.natAbs : Int) := by
  unfold code_size
  rw [w64_id (by omega)]
  congr 1
  split <;> omega
theorem sign_eq (N : Nat) (n : Int) : code_sign N n = some (sgn n) := by
  have hn : ∀ x : Int, (x != x) = false := fun x => by simp
  unfold code_sign cmp_Compare_int cmp_isNaN_int
  simp only [hn, bnd_val]
  rw [br_neg rfl, br_neg rfl]
  unfold sgn
  by_cases h : n < 0
  · rw [br_pos (by simpa using h), if_pos h]; rfl
  · rw [br_neg (by simpa using h), if_neg h]
    by_cases h1 : n > 0
    · rw [br_pos (by simpa using h1), if_pos h1]; rfl
    · rw [br_neg (by simpa using h1), if_neg h1]; rfl
/-- The soft bit of a place of the first half. -/
def leftAt (x y : Int) : Int := (if (y.natAbs : Int) < (x.natAbs : Int) then (y.natAbs : Int) else (x.natAbs : Int)) * sgn x * sgn y
def leftL (a b : List Int) : List Int := (List.range a.length).map fun i => leftAt (a.getD i 0) (b.getD i 0)
theorem leftL_length (a b : List Int) : (leftL a b).length = a.length := by simp [leftL]
theorem leftL_getD (a b : List Int) {i : Nat} (h : i < a.length) : (leftL a b).getD i 0 = leftAt (a.getD i 0) (b.getD i 0) := by
  simp [leftL, List.getD_eq_getElem?_getD, h]
/-- The soft bit of a place of the second half, the first half's word known. -/
def rightAt (w x y : Int) : Int := if w = 1 then y - x else y + x
def rightL (w a b : List Int) : List Int := (List.range a.length).map fun i => rightAt (w.getD i 0) (a.getD i 0) (b.getD i 0)
theorem rightL_length (w a b : List Int) : (rightL w a b).length = a.length := by simp [rightL]
theorem rightL_getD (w a b : List Int) {i : Nat} (h : i < a.length) : (rightL w a b).getD i 0 = rightAt (w.getD i 0) (a.getD i 0) (b.getD i 0) := by
  simp [rightL, List.getD_eq_getElem?_getD, h]
theorem sgn_cases (n : Int) : sgn n = -1 ∨ sgn n = 0 ∨ sgn n = 1 := by
  unfold sgn
  by_cases h : n < 0
  · rw [if_pos h]; exact .inl rfl
  · rw [if_neg h]
    by_cases h1 : n > 0
    · rw [if_pos h1]; exact .inr (.inr rfl)
    · rw [if_neg h1]; exact .inr (.inl rfl)
theorem leftAt_w64 (x y : Int) (hx : -4611686018427387904 < x ∧ x < 4611686018427387904) (hy : -4611686018427387904 < y ∧ y < 4611686018427387904) :
    w64 (w64 ((if (y.natAbs : Int) < (x.natAbs : Int) then (y.natAbs : Int) else (x.natAbs : Int)) * sgn x) * sgn y) = leftAt x y := by
  unfold leftAt
  generalize hm : (if (y.natAbs : Int) < (x.natAbs : Int) then (y.natAbs : Int) else (x.natAbs : Int)) = M
  have h1 : 0 ≤ M ∧ M < 4611686018427387904 := by rw [← hm]; split <;> omega
  rcases sgn_cases x with h | h | h <;> rcases sgn_cases y with h' | h' | h' <;> rw [h, h'] <;> rw [w64_id (n := M * _) (by omega), w64_id (by omega)]
end Go.Sh

/-
  What the shallow functions of the code chapter come to: the loops of cancelling.
-/
namespace Go.Sh
open Go.PW

theorem half_eq {a b : List Int} (hab : b.length = a.length) (hl : a.length < 1000000) : w64 (((a ++ b).length : Int).tdiv 2) = (a.length : Int) := by
  have e : (((a ++ b).length : Int).tdiv 2) = (a.length : Int) := by
    rw [List.length_append, hab, Int.tdiv_eq_ediv_of_nonneg (Int.natCast_nonneg _)]; omega
  rw [e]; exact w64_nat (by omega)
theorem take_half (a b : List Int) : (a ++ b).take a.length = a := by simp
theorem drop_half {a b : List Int} (hab : b.length = a.length) : ((a ++ b).drop a.length).take ((a ++ b).length - a.length) = b := by
  rw [List.drop_left, List.length_append, hab, Nat.add_sub_cancel, ← hab, List.take_length]
def inR (l : List Int) : Prop := ∀ i, i < l.length → -2305843009213693952 < l.getD i 0 ∧ l.getD i 0 < 2305843009213693952
theorem cancel_b1_eq {N : Nat} (a b : List Int) (hab : b.length = a.length) (hl : a.length < 1000000) (hN : a.length < N) (ha : inR a) (hb : inR b) (K : List Int → Option (List Int)) :
    rds (code_cancel.b1 N (a ++ b) K) N (0, List.replicate a.length 0) = K (leftL a b) := by
  refine rds_spec (fun x : Int × List Int => ∃ k : Nat, k ≤ a.length ∧ x.1 = k ∧ x.2.length = a.length ∧ ∀ j, j < k → x.2.getD j 0 = leftAt (a.getD j 0) (b.getD j 0)) (fun x => a.length - x.1.toNat) (fun _ => K (leftL a b)) (fun rec x hI hrec => ?_) N (0, List.replicate a.length 0) ⟨0, Nat.zero_le _, rfl, by simp, fun j hj => absurd hj (Nat.not_lt_zero _)⟩ (by simp; omega)
  obtain ⟨k, hk, hx, hcl, hc⟩ := hI
  obtain ⟨i, c⟩ := x
  simp only at hx hcl hc
  subst hx
  unfold code_cancel.b1
  simp only [half_eq hab hl, Int.toNat_natCast, take_half, drop_half hab]
  by_cases hkl : k < a.length
  · have h1 := ha k hkl
    have h2 := hb k (by omega)
    rw [br_pos (by simpa using hkl), chk_pos (by omega), size_eq N _ (by omega), bnd_val, chk_pos (by omega), size_eq N _ (by omega), bnd_val, chk_pos (by omega), sign_eq, bnd_val, chk_pos (by omega), sign_eq, bnd_val, chk_pos (by omega), w64_succ (by omega), leftAt_w64 _ _ (by omega) (by omega)]
    refine hrec _ ⟨k + 1, hkl, rfl, by simpa using hcl, fun j hj => ?_⟩ (by simp only [Int.toNat_natCast]; omega)
    simp only
    by_cases hjk : j = k
    · subst hjk
      rw [List.getD_eq_getElem?_getD, List.getElem?_set_self (by omega)]; rfl
    · rw [List.getD_eq_getElem?_getD, List.getElem?_set_ne (Ne.symm hjk), ← List.getD_eq_getElem?_getD]
      exact hc j (by omega)
  · rw [br_neg (by simpa using hkl)]
    have : c = leftL a b := ext_getD (by rw [hcl, leftL_length]) fun j hj => by rw [hc j (by omega), leftL_getD a b (by omega)]
    rw [this]
theorem cancel_b4_eq {N : Nat} (w c a b : List Int) (hab : b.length = a.length) (hw : w.length = a.length) (hcl0 : c.length = a.length) (hl : a.length < 1000000) (hN : a.length < N) (ha : inR a) (hb : inR b) (K : List Int → Option (List Int)) :
    rds (code_cancel.b4 N (a ++ b) K w) N (0, c) = K (rightL w a b) := by
  refine rds_spec (fun x : Int × List Int => ∃ k : Nat, k ≤ a.length ∧ x.1 = k ∧ x.2.length = a.length ∧ ∀ j, j < k → x.2.getD j 0 = rightAt (w.getD j 0) (a.getD j 0) (b.getD j 0)) (fun x => a.length - x.1.toNat) (fun _ => K (rightL w a b)) (fun rec x hI hrec => ?_) N (0, c) ⟨0, Nat.zero_le _, rfl, hcl0, fun j hj => absurd hj (Nat.not_lt_zero _)⟩ (by simp; omega)
  obtain ⟨k, hk, hx, hcl, hc⟩ := hI
  obtain ⟨i, c⟩ := x
  simp only at hx hcl hc
  subst hx
  unfold code_cancel.b4
  simp only [half_eq hab hl, Int.toNat_natCast, take_half, drop_half hab]
  by_cases hkl : k < a.length
  · have h1 := ha k hkl
    have h2 := hb k (by omega)
    rw [br_pos (by simp only [decide_eq_true_iff]; omega), chk_pos (by omega), chk_pos (by omega), chk_pos (by omega), chk_pos (by omega), w64_id (n := b.getD k 0 + a.getD k 0) (by omega), w64_id (n := b.getD k 0 - a.getD k 0) (by omega), w64_succ (by omega)]
    by_cases hw1 : w.getD k 0 = 1
    · rw [br_pos (by rw [hw1]; rfl), chk_pos (by omega), chk_pos (by omega), chk_pos (by rw [List.length_set]; omega), List.set_set]
      refine hrec _ ⟨k + 1, hkl, rfl, by simpa using hcl, fun j hj => ?_⟩ (by simp only [Int.toNat_natCast]; omega)
      simp only
      by_cases hjk : j = k
      · subst hjk
        rw [List.getD_eq_getElem?_getD, List.getElem?_set_self (by omega), rightAt, if_pos hw1]; rfl
      · rw [List.getD_eq_getElem?_getD, List.getElem?_set_ne (Ne.symm hjk), ← List.getD_eq_getElem?_getD]
        exact hc j (by omega)
    · rw [br_neg (by simpa using hw1)]
      refine hrec _ ⟨k + 1, hkl, rfl, by simpa using hcl, fun j hj => ?_⟩ (by simp only [Int.toNat_natCast]; omega)
      simp only
      by_cases hjk : j = k
      · subst hjk
        rw [List.getD_eq_getElem?_getD, List.getElem?_set_self (by omega), rightAt, if_neg hw1]; rfl
      · rw [List.getD_eq_getElem?_getD, List.getElem?_set_ne (Ne.symm hjk), ← List.getD_eq_getElem?_getD]
        exact hc j (by omega)
  · rw [br_neg (by simp only [decide_eq_false_iff_not]; omega)]
    have : c = rightL w a b := ext_getD (by rw [hcl, rightL_length]) fun j hj => by rw [hc j (by omega), rightL_getD w a b (by omega)]
    rw [this]
end Go.Sh

/-
  What the shallow functions of the code chapter come to: cancelling undoes the word, where the signs are right.
-/
namespace Go.Sh
open Go.PW

/-- A soft bit with the sign of a bit. -/
def signed (x w : Int) : Prop := (w = 0 ∧ 0 < x) ∨ (w = 1 ∧ x < 0)
theorem xorI_bits {a b : Int} (ha : a = 0 ∨ a = 1) (hb : b = 0 ∨ b = 1) : xorI a b = if a = b then 0 else 1 := by
  rcases ha with rfl | rfl <;> rcases hb with rfl | rfl
  · exact xorI_nat (a := 0) (b := 0) (by omega) (by omega)
  · exact xorI_nat (a := 0) (b := 1) (by omega) (by omega)
  · exact xorI_nat (a := 1) (b := 0) (by omega) (by omega)
  · exact xorI_nat (a := 1) (b := 1) (by omega) (by omega)
theorem signed_sgn {x w : Int} (h : signed x w) : sgn x = 1 - 2 * w := by
  rcases h with ⟨rfl, h⟩ | ⟨rfl, h⟩ <;> unfold sgn
  · rw [if_neg (by omega), if_pos h]; rfl
  · rw [if_pos h]; rfl
theorem left_signed {x y v w : Int} (hv : v = 0 ∨ v = 1) (hw : w = 0 ∨ w = 1) (hx : signed x (xorI v w)) (hy : signed y w) : signed (leftAt x y) v := by
  have hx0 : x ≠ 0 := by rcases hx with ⟨_, h⟩ | ⟨_, h⟩ <;> omega
  have hy0 : y ≠ 0 := by rcases hy with ⟨_, h⟩ | ⟨_, h⟩ <;> omega
  unfold leftAt
  rw [signed_sgn hx, signed_sgn hy, xorI_bits hv hw]
  generalize hm : (if (y.natAbs : Int) < (x.natAbs : Int) then (y.natAbs : Int) else (x.natAbs : Int)) = M
  have h1 : 0 < M := by rw [← hm]; split <;> omega
  rcases hv with rfl | rfl <;> rcases hw with rfl | rfl <;> simp [signed] <;> omega
theorem right_signed {x y v w : Int} (hv : v = 0 ∨ v = 1) (hw : w = 0 ∨ w = 1) (hx : signed x (xorI v w)) (hy : signed y w) : signed (rightAt v x y) w := by
  rw [xorI_bits hv hw] at hx
  unfold rightAt
  rcases hv with rfl | rfl <;> rcases hw with rfl | rfl <;> simp [signed] at hx hy ⊢ <;> omega
theorem left_size {x y B : Int} (hx : (x.natAbs : Int) ≤ B) (hy : (y.natAbs : Int) ≤ B) : ((leftAt x y).natAbs : Int) ≤ B := by
  unfold leftAt
  generalize hm : (if (y.natAbs : Int) < (x.natAbs : Int) then (y.natAbs : Int) else (x.natAbs : Int)) = M
  have h1 : 0 ≤ M ∧ M ≤ B := by rw [← hm]; split <;> omega
  rcases sgn_cases x with h | h | h <;> rcases sgn_cases y with h' | h' | h' <;> rw [h, h'] <;> omega
theorem right_size {v x y B : Int} (hx : (x.natAbs : Int) ≤ B) (hy : (y.natAbs : Int) ≤ B) : ((rightAt v x y).natAbs : Int) ≤ 2 * B := by
  unfold rightAt; split <;> omega
end Go.Sh

/-
  What the shallow functions of the code chapter come to: cancelling.
-/
namespace Go.Sh
open Go.PW

def bits (l : List Int) : Prop := ∀ i, i < l.length → l.getD i 0 = 0 ∨ l.getD i 0 = 1
theorem bits_getD {l : List Int} (h : bits l) (i : Nat) : l.getD i 0 = 0 ∨ l.getD i 0 = 1 := by
  by_cases hi : i < l.length
  · exact h i hi
  · exact .inl (by simp [List.getD_eq_getElem?_getD, List.getElem?_eq_none (Nat.le_of_not_lt hi)])
theorem xorI_bit {a b : Int} (ha : a = 0 ∨ a = 1) (hb : b = 0 ∨ b = 1) : xorI a b = 0 ∨ xorI a b = 1 := by
  rw [xorI_bits ha hb]; split <;> simp
theorem stepL_bits (s : Nat) {l : List Int} (h : bits l) : bits (stepL s l) := fun i hi => by
  rw [stepL_length] at hi
  rw [stepL_getD s l i hi, wordAt]
  split
  · exact h i hi
  · exact xorI_bit (bits_getD h _) (bits_getD h _)
theorem wordL_bits : ∀ (m : Nat) {l : List Int}, bits l → bits (wordL m l)
  | 0, _, h => h
  | m + 1, _, h => stepL_bits m (wordL_bits m h)

theorem cancel_eq {N : Nat} (isInfo : Int → Option Bool) (info : Nat → Bool) : ∀ (m : Nat), m ≤ 6 → 2 ^ m < N → ∀ (n : Nat), m < n → ∀ (soft u : List Int) (f : Nat) (B : Nat), soft.length = 2 ^ m → u.length = 2 ^ m → bits u →
    (∀ i, i < 2 ^ m → signed (soft.getD i 0) ((wordL m u).getD i 0)) → (∀ i, i < 2 ^ m → ((soft.getD i 0).natAbs : Int) ≤ B) → B * 2 ^ m ≤ 2 ^ 40 → (∀ i, i < 2 ^ m → isInfo ((f + i : Nat) : Int) = some (info (f + i))) →
    (∀ i, i < 2 ^ m → info (f + i) = false → u.getD i 0 = 0) → f + 2 ^ m ≤ 1000000 → rds (code_cancel.b N isInfo) n (soft, (f : Int)) = some u := by
  intro m
  induction m with
  | zero =>
    intro _ _ n hn soft u f B hs hu hb hsg _ _ hinfo h0 _
    obtain ⟨n, rfl⟩ : ∃ k, n = k + 1 := ⟨n - 1, by omega⟩
    obtain ⟨x, rfl⟩ := List.length_eq_one_iff.1 hs
    obtain ⟨y, rfl⟩ := List.length_eq_one_iff.1 hu
    have hx := hsg 0 (by simp)
    have hy := h0 0 (by simp)
    have hi := hinfo 0 (by simp)
    simp only [Nat.add_zero] at hi hy
    rw [rds_succ]
    show br (w64 ((([x] : List Int).length : Int).tdiv 2) == 0) _ _ = _
    have hz : w64 ((([x] : List Int).length : Int).tdiv 2) = 0 := by rw [show ((([x] : List Int).length : Int).tdiv 2) = 0 by rw [List.length_singleton]; decide]; exact w64_id (by decide)
    rw [hz, br_pos (by rfl), hi, bnd_val, chk_pos (by intro _; simp)]
    simp only [wordL, List.getD_cons_zero] at hx hy ⊢
    rcases hx with ⟨rfl, h⟩ | ⟨rfl, h⟩
    · rw [br_neg (by simp; intro _; omega)]
    · cases hf : info f with
      | true => rw [br_pos (by simpa using h)]
      | false => exact absurd (hy hf) (by decide)
  | succ m ih =>
    intro hm hN n hn soft u f B hs hu hb hsg hB hBm hinfo h0 hf
    obtain ⟨n, rfl⟩ : ∃ k, n = k + 1 := ⟨n - 1, by omega⟩
    have hp : 2 ^ (m + 1) = 2 ^ m + 2 ^ m := by rw [Nat.pow_succ]; omega
    have hpos := Nat.two_pow_pos m
    have h64 := pow_le6 hm
    obtain ⟨a, b, rfl, ha, hb'⟩ : ∃ a b, soft = a ++ b ∧ a.length = 2 ^ m ∧ b.length = 2 ^ m := ⟨soft.take (2 ^ m), soft.drop (2 ^ m), (List.take_append_drop _ _).symm, by rw [List.length_take]; omega, by rw [List.length_drop]; omega⟩
    obtain ⟨u1, u2, rfl, hu1, hu2⟩ : ∃ u1 u2, u = u1 ++ u2 ∧ u1.length = 2 ^ m ∧ u2.length = 2 ^ m := ⟨u.take (2 ^ m), u.drop (2 ^ m), (List.take_append_drop _ _).symm, by rw [List.length_take]; omega, by rw [List.length_drop]; omega⟩
    rw [wordL_halves m u1 u2 hu1 hu2] at hsg
    have hab : b.length = a.length := by omega
    have hal : a.length < 1000000 := by omega
    have hBB : B ≤ 2 ^ 40 := Nat.le_trans (Nat.le_mul_of_pos_right B (Nat.two_pow_pos _)) hBm
    have hra : inR a := fun i hi => by
      have := hB i (by omega)
      rw [getD_left a b hi] at this
      omega
    have hrb : inR b := fun i hi => by
      have := hB (a.length + i) (by omega)
      rw [getD_right] at this
      omega
    generalize hself : rds (code_cancel.b N isInfo) n = self at *
    rw [rds_succ, hself]
    show br (w64 (((a ++ b).length : Int).tdiv 2) == 0) _ _ = _
    simp only [half_eq hab hal, Int.toNat_natCast]
    rw [br_neg (by rw [beq_eq_false_iff_ne]; omega), chk_pos (by rw [List.length_append]; omega), chk_pos (by rw [List.length_append]; omega), chk_pos (by omega), jn, cancel_b1_eq a b hab hal (by omega) hra hrb]
    have hbu1 : bits u1 := fun i hi => by have := hb i (by rw [List.length_append]; omega); rwa [getD_left u1 u2 hi] at this
    have hbu2 : bits u2 := fun i hi => by have := hb (u1.length + i) (by rw [List.length_append]; omega); rwa [getD_right] at this
    have hw1 := wordL_bits m hbu1
    have hw2 := wordL_bits m hbu2
    have hsa : ∀ i, i < 2 ^ m → signed (a.getD i 0) (xorI ((wordL m u1).getD i 0) ((wordL m u2).getD i 0)) := fun i hi => by
      have := hsg i (by omega)
      rwa [getD_left a b (by omega), getD_left _ _ (by rw [zipX_length, wordL_length]; omega), zipX_getD _ _ (by rw [wordL_length]; omega)] at this
    have hsb : ∀ i, i < 2 ^ m → signed (b.getD i 0) ((wordL m u2).getD i 0) := fun i hi => by
      have := hsg (a.length + i) (by omega)
      have e : a.length + i = (zipX (wordL m u1) (wordL m u2)).length + i := by rw [zipX_length, wordL_length]; omega
      rw [getD_right] at this
      rwa [e, getD_right] at this
    have key1 : self (leftL a b, (f : Int)) = some u1 := by
      rw [← hself]
      refine ih (by omega) (by omega) n (by omega) (leftL a b) u1 f B (by rw [leftL_length, ha]) hu1 hbu1 (fun i hi => ?_) (fun i hi => ?_) ?_ (fun i hi => hinfo i (by omega)) (fun i hi h => ?_) (by omega)
      · rw [leftL_getD a b (by omega)]; exact left_signed (bits_getD hw1 i) (bits_getD hw2 i) (hsa i hi) (hsb i hi)
      · rw [leftL_getD a b (by omega)]
        have h1 := hB i (by omega)
        have h2 := hB (a.length + i) (by omega)
        rw [getD_left a b (by omega)] at h1
        rw [getD_right] at h2
        exact left_size h1 h2
      · rw [hp, Nat.mul_add] at hBm; omega
      · have := h0 i (by omega) h
        rwa [getD_left u1 u2 (by omega)] at this
    show bnd (self (leftL a b, (f : Int))) _ = _
    rw [key1, bnd_val]
    have key2 : self (rightL (wordL m u1) a b, ((f + a.length : Nat) : Int)) = some u2 := by
      rw [← hself]
      refine ih (by omega) (by omega) n (by omega) (rightL (wordL m u1) a b) u2 (f + a.length) (2 * B) (by rw [rightL_length, ha]) hu2 hbu2 (fun i hi => ?_) (fun i hi => ?_) ?_ (fun i hi => ?_) (fun i hi h => ?_) ?_
      · rw [rightL_getD _ a b (by omega)]; exact right_signed (bits_getD hw1 i) (bits_getD hw2 i) (hsa i hi) (hsb i hi)
      · rw [rightL_getD _ a b (by omega)]
        have h1 := hB i (by omega)
        have h2 := hB (a.length + i) (by omega)
        rw [getD_left a b (by omega)] at h1
        rw [getD_right] at h2
        exact right_size h1 h2
      · rw [hp, Nat.mul_add] at hBm; rw [Nat.mul_assoc]; omega
      · have := hinfo (a.length + i) (by omega)
        rwa [← Nat.add_assoc] at this
      · have := h0 (a.length + i) (by omega) (by rwa [← Nat.add_assoc])
        rw [ha, ← hu1] at this
        rwa [getD_right] at this
      · omega
    rw [jn, slices_Clone_ii, chk_pos (by omega), bnd_val, jn, cancel_b2, wordOut_eq m (by omega) u1 hu1 _ (by omega)]
    show rds (code_cancel.b4 N (a ++ b) _ (wordL m u1)) N (0, leftL a b) = _
    rw [cancel_b4_eq (wordL m u1) (leftL a b) a b hab (by rw [wordL_length]; omega) (leftL_length a b) hal (by omega) hra hrb]
    have e : w64 ((f : Int) + (a.length : Int)) = ((f + a.length : Nat) : Int) := by
      rw [w64_id (by omega)]; rfl
    show bnd (self (rightL (wordL m u1) a b, w64 ((f : Int) + (a.length : Int)))) _ = _
    rw [e, key2, bnd_val, chk_pos (by omega)]
end Go.Sh

/-
  What the shallow functions of the code chapter come to: looking up places, decoding.
-/
namespace Go.Sh
open Go.PW

/-- Numbers, each greater than the one ahead. -/
def rising (l : List Int) : Prop := ∀ i j, i < j → j < l.length → l.getD i 0 < l.getD j 0
theorem mid_eq {i j : Nat} (h : i < j) (hj : j < 1000000) : w64 (shrI (wu64 (w64 ((i : Int) + (j : Int)))) 1) = (((i + j) / 2 : Nat) : Int) := by
  have e1 : w64 ((i : Int) + (j : Int)) = ((i + j : Nat) : Int) := by rw [w64_id (by omega)]; rfl
  rw [e1, wu64_id (by omega)]
  have e2 := shrI_nat (a := i + j) (b := 1) (by omega)
  rw [show ((1 : Nat) : Int) = 1 from rfl, show 2 ^ 1 = 2 from rfl] at e2
  rw [e2]; exact w64_nat (by omega)
theorem Less_eq (N : Nat) (x y : Int) : cmp_Less_int N x y = some (decide (x < y)) := by
  have hn : ∀ x : Int, (x != x) = false := fun x => by simp
  unfold cmp_Less_int cmp_isNaN_int
  simp only [hn, bnd_val, grd_false, Bool.false_and, Bool.false_or]
theorem BinarySearch_b1_eq {N : Nat} (l : List Int) (t : Int) (hl : l.length < 1000000) (hN : l.length < N) (p : Nat) (hp : p ≤ l.length) (hlo : ∀ k, k < p → l.getD k 0 < t) (hhi : ∀ k, p ≤ k → k < l.length → ¬ l.getD k 0 < t) (K : Int → Option (Int × Bool)) :
    rds (slices_BinarySearch_ii.b1 N l t K) N (0, (l.length : Int)) = K (p : Int) := by
  refine rds_spec (fun x : Int × Int => ∃ i j : Nat, x = ((i : Int), (j : Int)) ∧ i ≤ p ∧ p ≤ j ∧ j ≤ l.length) (fun x => x.2.toNat - x.1.toNat) (fun _ => K (p : Int)) (fun rec x hI hrec => ?_) N (0, (l.length : Int)) ⟨0, l.length, rfl, Nat.zero_le _, hp, Nat.le_refl _⟩ (by simp; omega)
  obtain ⟨i, j, rfl, hi, hj, hjl⟩ := hI
  show br (decide ((i : Int) < (j : Int))) _ _ = _
  by_cases h : i < j
  · rw [br_pos (by simpa using h), mid_eq h (by omega), chk_pos (by omega), Less_eq, bnd_val, Int.toNat_natCast, w64_succ (by omega)]
    by_cases hc : l.getD ((i + j) / 2) 0 < t
    · rw [br_pos (by simpa using hc)]
      refine hrec _ ⟨(i + j) / 2 + 1, j, rfl, ?_, hj, hjl⟩ (by simp only [Int.toNat_natCast]; omega)
      by_cases hm : (i + j) / 2 < p
      · exact hm
      · exact absurd hc (hhi _ (by omega) (by omega))
    · rw [br_neg (by simpa using hc)]
      refine hrec _ ⟨i, (i + j) / 2, rfl, hi, ?_, by omega⟩ (by simp only [Int.toNat_natCast]; omega)
      by_cases hm : (i + j) / 2 < p
      · exact absurd (hlo _ hm) hc
      · omega
  · have : i = p := by omega
    subst this
    rw [br_neg (by simpa using h)]
theorem BinarySearch_eq {N : Nat} (l : List Int) (t : Int) (hr : rising l) (hl : l.length < 1000000) (hN : l.length < N) : ∃ i, slices_BinarySearch_ii N l t = some (i, decide (t ∈ l)) := by
  obtain ⟨p, hp, hlo, hhi⟩ : ∃ p, p ≤ l.length ∧ (∀ k, k < p → l.getD k 0 < t) ∧ (∀ k, p ≤ k → k < l.length → ¬ l.getD k 0 < t) := by
    have key : ∀ d, d ≤ l.length → ∃ p, p ≤ d ∧ (∀ k, k < p → l.getD k 0 < t) ∧ (∀ k, p ≤ k → k < d → ¬ l.getD k 0 < t) := by
      intro d
      induction d with
      | zero => intro _; exact ⟨0, Nat.le_refl _, fun k h => absurd h (Nat.not_lt_zero _), fun k _ h => absurd h (Nat.not_lt_zero _)⟩
      | succ d ih =>
        intro hd
        obtain ⟨p, h1, h2, h3⟩ := ih (by omega)
        by_cases hc : l.getD d 0 < t
        · refine ⟨d + 1, Nat.le_refl _, fun k hk => ?_, fun k h4 h5 => by omega⟩
          by_cases hkd : k = d
          · subst hkd; exact hc
          · exact Int.lt_trans (hr k d (by omega) (by omega)) hc
        · refine ⟨p, by omega, h2, fun k h4 h5 => ?_⟩
          by_cases hkd : k = d
          · subst hkd; exact hc
          · exact h3 k h4 (by omega)
    exact key l.length (Nat.le_refl _)
  refine ⟨p, ?_⟩
  unfold slices_BinarySearch_ii slices_isNaN_int
  rw [jn, BinarySearch_b1_eq l t hl hN p hp hlo hhi]
  have hn : ∀ x : Int, (x != x) = false := fun x => by simp
  simp only [hn, Int.toNat_natCast]
  rw [chk_pos (by simp only [decide_eq_true_iff]; omega), chk_pos (by simp only [Bool.and_eq_true, decide_eq_true_iff]; omega)]
  have g1 : ∀ g : Bool, grd g false (some false) = some false := fun g => by cases g <;> rfl
  rw [g1, bnd_val, g1, bnd_val]
  congr 2
  rw [Bool.eq_iff_iff]
  simp only [Bool.or_false, Bool.and_eq_true, decide_eq_true_iff, beq_iff_eq, Bool.and_false]
  constructor
  · rintro ⟨h1, h2⟩
    have h3 : p < l.length := by omega
    rw [← h2, getD_eq h3]; exact List.getElem_mem h3
  · intro h
    obtain ⟨k, hk, rfl⟩ := List.getElem_of_mem h
    have hk1 : ¬ k < p := fun h => by have := hlo k h; rw [getD_eq hk] at this; omega
    have hpk : p = k := by
      by_cases h : p < k
      · have h1 := hr p k h hk
        have h2 := hhi p (Nat.le_refl _) (by omega)
        rw [getD_eq hk] at h1
        exact absurd h1 h2
      · omega
    subst hpk
    exact ⟨by omega, getD_eq hk⟩
theorem decode_1_eq {N : Nat} (l : List Int) (p t : Int) (hr : rising l) (hl : l.length < 1000000) (hN : l.length < N) : code_decode_1 N t p l = some (decide (t ∈ l)) := by
  obtain ⟨i, h⟩ := BinarySearch_eq l t hr hl hN
  unfold code_decode_1
  rw [h]; rfl
theorem decode_b1_eq {N : Nat} (info x : List Int) (hin : ∀ k ∈ info, 0 ≤ k ∧ k < (x.length : Int)) (hl : info.length < 1000000) (hN : info.length < N) (K : List Int → Option (List Int)) :
    rds (code_decode.b1 N info x K) N (0, []) = K (info.map fun k => x.getD k.toNat 0) := by
  refine rds_spec (fun s : Int × List Int => ∃ k : Nat, k ≤ info.length ∧ s = ((k : Int), (info.take k).map fun k => x.getD k.toNat 0)) (fun s => info.length - s.1.toNat) (fun _ => K (info.map fun k => x.getD k.toNat 0)) (fun rec s hI hrec => ?_) N (0, []) ⟨0, Nat.zero_le _, by simp⟩ (by simp; omega)
  obtain ⟨k, hk, rfl⟩ := hI
  show br (decide ((k : Int) < (info.length : Int))) _ _ = _
  by_cases hkl : k < info.length
  · have hm := hin info[k] (List.getElem_mem hkl)
    rw [br_pos (by simpa using hkl), chk_pos (by omega), Int.toNat_natCast, getD_eq hkl, chk_pos hm, chk_pos (by simp; omega), w64_succ (by omega)]
    refine hrec _ ⟨k + 1, hkl, ?_⟩ (by simp only [Int.toNat_natCast]; omega)
    rw [List.take_succ_eq_append_getElem hkl, List.map_append]; rfl
  · have : k = info.length := by omega
    subst this
    rw [br_neg (by simp), List.take_length]
end Go.Sh

/-
  What the shallow functions of the code chapter come to: decoding.
-/
namespace Go.Sh
open Go.PW
theorem decode_eq {N q : Nat} (hq : q ≤ 6) (info soft u : List Int) (p : Int) (hr : rising info) (hin : ∀ x ∈ info, 0 ≤ x ∧ x < ((2 ^ q : Nat) : Int)) (hl : info.length < 1000000) (hN : info.length < N) (hN2 : 64 < N)
    (hs : soft.length = 2 ^ q) (hu : u.length = 2 ^ q) (hb : bits u) (hz : ∀ i, i < 2 ^ q → ((i : Nat) : Int) ∉ info → u.getD i 0 = 0)
    (hsg : ∀ i, i < 2 ^ q → signed (soft.getD i 0) ((wordL q u).getD i 0)) (hB : ∀ i, i < 2 ^ q → ((soft.getD i 0).natAbs : Int) ≤ 1000000) :
    code_decode N p info soft = some (info.map fun k => u.getD k.toNat 0) := by
  have h64 := pow_le6 hq
  unfold code_decode code_cancel
  have hc := cancel_eq (N := N) (fun y0 => code_decode_1 N y0 p info) (fun k => decide ((k : Int) ∈ info)) q hq (by omega) N (by omega) soft u 0 1000000 hs hu hb hsg hB (by have := Nat.mul_le_mul_left 1000000 h64; omega)
    (fun i hi => by rw [decode_1_eq info p _ hr hl hN]) (fun i hi h => hz i hi (by simpa using h)) (by omega)
  rw [show ((0 : Nat) : Int) = 0 from rfl] at hc
  rw [hc, bnd_val, jn, decode_b1_eq info u (fun k hk => by rw [hu]; exact hin k hk) hl hN]
end Go.Sh

/-
  What the exported functions of the code chapter come to: Encode, Decode.
-/
namespace Go.Sh
open Go.PW
theorem Encode_eq {N : Nat} (p : Int) (info l : List Int) (hi : info.length < 1000000) (hl : l.length < 1000000) (hN : info.length < N) (hN1 : l.length < N) (hN2 : 64 < N) :
    code_Encode N p info l = (let e := firstOf [polarErr p info, listErr 200 isBitB 15 l, if l.length = info.length then 0 else 10]; if e ≠ 0 then some ([], e) else bnd (code_encode N p info l) fun x => some (x, 0)) := by
  unfold code_Encode
  rw [CheckPolar_eq p info (by omega) hN (by omega), bnd_val, bitsErr_eq l (by omega) hN1 (by omega), bnd_val, unless_eq, bnd_val, first_eq _ (by simp) (by simp; omega), bnd_val]
  have e : (if ((l.length : Int) == (info.length : Int)) = true then (0 : Int) else 10) = if l.length = info.length then 0 else 10 := by
    by_cases h : l.length = info.length
    · rw [if_pos h, if_pos (by rw [h]; exact beq_self_eq_true _)]
    · rw [if_neg h, if_neg (by rw [beq_iff_eq]; omega)]
  rw [e]
  by_cases h : firstOf [polarErr p info, listErr 200 isBitB 15 l, if l.length = info.length then 0 else 10] = 0
  · simp only [h]; rfl
  · rw [br_pos (by rw [bne_iff_ne]; exact h)]; simp only [h, ne_eq, not_false_iff, if_true]
theorem Decode_eq {N q : Nat} (hq : q ≤ 6) (info l : List Int) (hi : info.length < 1000000) (hl : l.length < 1000000) (hN : info.length < N) (hN1 : l.length < N) (hN2 : 64 < N) (h1 : polarErr q info = 0) (h2 : listErr 400 isSoftB 2 l = 0) (h3 : l.length = 2 ^ q) :
    code_Decode N q info l = bnd (code_decode N q info l) fun x => some (x, 0) := by
  unfold code_Decode
  rw [CheckPolar_eq _ info (by omega) hN (by omega), bnd_val, softErr_eq l (by omega) hN1 (by omega), bnd_val, h1, h2, first_eq _ (by simp) (by simp; omega), bnd_val, br_neg (by rfl), chk_pos (by omega), shl1_pow (by omega), h3, br_neg (by simp)]
end Go.Sh

/-
  What the shallow functions of the code chapter come to: places and soft bits with the signs of a word.
-/
namespace Go.Sh
open Go.PW

theorem placesErr_zero (m : Int) : ∀ (l : List Int) (b : Int), placesErr m b l = 0 → (∀ x ∈ l, 0 ≤ x ∧ x ≤ m ∧ b < x) ∧ l.Pairwise (· < ·)
  | [], _, _ => ⟨by simp, List.Pairwise.nil⟩
  | x :: l, b, h => by
    rw [placesErr] at h
    by_cases h1 : 0 ≤ x ∧ x ≤ m
    · rw [if_neg (by simpa using h1)] at h
      by_cases h2 : x ≤ b
      · rw [if_pos h2] at h; exact absurd h (by decide)
      · rw [if_neg h2] at h
        obtain ⟨ih1, ih2⟩ := placesErr_zero m l x h
        refine ⟨fun y hy => ?_, List.pairwise_cons.2 ⟨fun y hy => (ih1 y hy).2.2, ih2⟩⟩
        rcases List.mem_cons.1 hy with rfl | hy
        · exact ⟨h1.1, h1.2, by omega⟩
        · have := ih1 y hy
          exact ⟨this.1, this.2.1, by omega⟩
    · rw [if_pos h1] at h; exact absurd h (by decide)
theorem polarErr_zero {p : Int} {l : List Int} (h : polarErr p l = 0) : ∃ q : Nat, q ≤ 6 ∧ p = q ∧ l ≠ [] ∧ (∀ x ∈ l, 0 ≤ x ∧ x < ((2 ^ q : Nat) : Int)) ∧ l.Pairwise (· < ·) := by
  unfold polarErr at h
  by_cases h1 : 0 ≤ p ∧ p ≤ 6
  · rw [if_neg (by simpa using h1)] at h
    by_cases h2 : l.length = 0
    · rw [if_pos h2] at h; exact absurd h (by decide)
    · rw [if_neg h2] at h
      obtain ⟨h3, h4⟩ := placesErr_zero _ _ _ h
      have e : ((2 ^ p.toNat : Nat) : Int) = 2 ^ p.toNat := by push_cast; rfl
      exact ⟨p.toNat, by omega, by omega, fun hn => h2 (by rw [hn]; rfl), fun x hx => ⟨(h3 x hx).1, by rw [e]; have := (h3 x hx).2.1; omega⟩, h4⟩
  · rw [if_pos h1] at h; exact absurd h (by decide)
theorem rising_of {l : List Int} (h : l.Pairwise (· < ·)) : rising l := fun i j hij hj => by
  rw [getD_eq hj, getD_eq (Nat.lt_trans hij hj)]
  exact List.pairwise_iff_getElem.1 h i j (Nat.lt_trans hij hj) hj hij
theorem pow_length_le {l : List Int} {q : Nat} (h : l.Pairwise (· < ·)) (hin : ∀ x ∈ l, 0 ≤ x ∧ x < ((2 ^ q : Nat) : Int)) : True := trivial
theorem place_getD_out : ∀ (is ys b : List Int) (j : Nat), (∀ x ∈ is, 0 ≤ x) → (j : Int) ∉ is → (place is ys b).getD j 0 = b.getD j 0
  | [], _, _, _, _, _ => by simp [place]
  | _ :: _, [], _, _, _, _ => by simp [place]
  | x :: is, y :: ys, b, j, h0, h => by
    rw [place, place_getD_out is ys _ j (fun z hz => h0 z (List.mem_cons_of_mem _ hz)) (fun hm => h (List.mem_cons_of_mem _ hm))]
    have hx := h0 x (List.mem_cons_self)
    have hne : x.toNat ≠ j := fun e => h (by rw [← e, Int.toNat_of_nonneg hx]; exact List.mem_cons_self)
    simp [List.getD_eq_getElem?_getD, List.getElem?_set, hne]
theorem place_map : ∀ (is ys b : List Int), is.Pairwise (· < ·) → (∀ x ∈ is, 0 ≤ x ∧ x < (b.length : Int)) → ys.length = is.length → (is.map fun k => (place is ys b).getD k.toNat 0) = ys
  | [], [], _, _, _, _ => rfl
  | x :: is, y :: ys, b, hp, hin, hl => by
    obtain ⟨hp1, hp2⟩ := List.pairwise_cons.1 hp
    have hx := hin x List.mem_cons_self
    have ih := place_map is ys (b.set x.toNat y) hp2 (fun z hz => by rw [List.length_set]; exact hin z (List.mem_cons_of_mem _ hz)) (by simpa using hl)
    rw [List.map_cons, place, ih, place_getD_out is ys _ x.toNat (fun z hz => (hin z (List.mem_cons_of_mem _ hz)).1) (fun hm => by
      rw [Int.toNat_of_nonneg hx.1] at hm
      exact absurd (hp1 x hm) (by omega))]
    have : x.toNat < b.length := by omega
    simp [List.getD_eq_getElem?_getD, this]
theorem bits_set {b : List Int} (h : bits b) (k : Nat) {y : Int} (hy : y = 0 ∨ y = 1) : bits (b.set k y) := fun i hi => by
  rw [List.length_set] at hi
  by_cases hk : k = i
  · subst hk; simpa [List.getD_eq_getElem?_getD, hi] using hy
  · have := h i hi
    simpa [List.getD_eq_getElem?_getD, List.getElem?_set, hk] using this
theorem place_bits : ∀ (is ys b : List Int), bits ys → bits b → bits (place is ys b)
  | [], _, _, _, h => by simpa [place] using h
  | _ :: _, [], _, _, h => by simpa [place] using h
  | x :: is, y :: ys, b, hy, h => by
    rw [place]
    refine place_bits is ys _ (fun i hi => ?_) (bits_set h _ ?_)
    · have := hy (i + 1) (by simpa using hi); simpa using this
    · have := hy 0 (by simp); simpa using this
theorem bits_of_all {l : List Int} (h : l.all isBitB = true) : bits l := fun i hi => by
  have hm : l.getD i 0 ∈ l := by rw [getD_eq hi]; exact List.getElem_mem hi
  have := List.all_eq_true.1 h _ hm
  simpa [isBitB] using this
theorem all_of_bits {l : List Int} (h : bits l) : l.all isBitB = true := by
  rw [List.all_eq_true]
  intro x hx
  obtain ⟨i, hi, rfl⟩ := List.mem_iff_getElem.1 hx
  have := h i hi
  rw [getD_eq hi] at this
  simpa [isBitB] using this
theorem bits_replicate (n : Nat) : bits (List.replicate n 0) := fun i hi => by
  left
  rw [getD_eq hi]; simp
theorem listErr_zero {most e : Int} {f : Int → Bool} {l : List Int} (he : e ≠ 0) (h : listErr most f e l = 0) : l.length ≠ 0 ∧ (l.length : Int) ≤ most ∧ l.all f = true := by
  unfold listErr at h
  by_cases h1 : l.length = 0
  · rw [if_pos h1] at h; exact absurd h (by decide)
  · rw [if_neg h1] at h
    by_cases h2 : (l.length : Int) > most
    · rw [if_pos h2] at h; exact absurd h (by decide)
    · rw [if_neg h2] at h
      cases h3 : l.all f
      · rw [h3] at h; exact absurd h he
      · exact ⟨h1, by omega, rfl⟩
theorem listErr_ok {most e : Int} {f : Int → Bool} {l : List Int} (h1 : l.length ≠ 0) (h2 : (l.length : Int) ≤ most) (h3 : l.all f = true) : listErr most f e l = 0 := by
  unfold listErr
  rw [if_neg h1, if_neg (by omega), if_pos h3]

/-- Soft bits with the signs of a word. -/
def softAt (w s : Int) : Int := (1 - 2 * w) * (1 + s % 1000000)
def softL (w sizes : List Int) : List Int := (List.range w.length).map fun i => softAt (w.getD i 0) (sizes.getD i 0)
theorem softL_length (w s : List Int) : (softL w s).length = w.length := by simp [softL]
theorem softL_getD (w s : List Int) {i : Nat} (h : i < w.length) : (softL w s).getD i 0 = softAt (w.getD i 0) (s.getD i 0) := by
  simp [softL, List.getD_eq_getElem?_getD, h]
theorem softAt_signed {w s : Int} (hw : w = 0 ∨ w = 1) : signed (softAt w s) w ∧ ((softAt w s).natAbs : Int) ≤ 1000000 ∧ isSoftB (softAt w s) = true := by
  have h1 := Int.emod_nonneg s (show (1000000 : Int) ≠ 0 by decide)
  have h2 := Int.emod_lt_of_pos s (show (0 : Int) < 1000000 by decide)
  unfold softAt isSoftB signed
  generalize s % 1000000 = m at *
  rcases hw with rfl | rfl
  · rw [show ((1 : Int) - 2 * 0) * (1 + m) = 1 + m by omega]
    exact ⟨Or.inl ⟨rfl, by omega⟩, by omega, by simp; omega⟩
  · rw [show ((1 : Int) - 2 * 1) * (1 + m) = -(1 + m) by omega]
    exact ⟨Or.inr ⟨rfl, by omega⟩, by omega, by simp; omega⟩
theorem softL_ok {w s : List Int} (hw : bits w) : (∀ i, i < w.length → signed ((softL w s).getD i 0) (w.getD i 0)) ∧ (∀ i, i < w.length → (((softL w s).getD i 0).natAbs : Int) ≤ 1000000) ∧ (softL w s).all isSoftB = true := by
  refine ⟨fun i hi => ?_, fun i hi => ?_, ?_⟩
  · rw [softL_getD w s hi]; exact (softAt_signed (hw i hi)).1
  · rw [softL_getD w s hi]; exact (softAt_signed (hw i hi)).2.1
  · rw [List.all_eq_true]
    intro x hx
    obtain ⟨i, hi, rfl⟩ := List.mem_map.1 hx
    exact (softAt_signed (hw i (by simpa using hi))).2.2
theorem softAt_w64 {w m : Int} (hw : w = 0 ∨ w = 1) (hm : 0 ≤ m ∧ m < 1000000) : w64 (w64 (1 - w64 (2 * w)) * w64 (1 + m)) = (1 - 2 * w) * (1 + m) := by
  rw [w64_id (n := 1 + m) (by omega)]
  rcases hw with rfl | rfl
  · rw [w64_id (n := 2 * 0) (by omega), w64_id (n := 1 - 2 * 0) (by omega)]
    exact w64_id (by omega)
  · rw [w64_id (n := 2 * 1) (by omega), w64_id (n := 1 - 2 * 1) (by omega)]
    exact w64_id (by omega)
def inI64 (l : List Int) : Prop := ∀ i, i < l.length → -9223372036854775808 ≤ l.getD i 0 ∧ l.getD i 0 ≤ 9223372036854775807
theorem Decoded_b1_eq {N : Nat} (w sizes : List Int) (hw : bits w) (hl : w.length < 1000000) (hs : w.length ≤ sizes.length) (hi : inI64 sizes) (hN : w.length < N) (K : List Int → Option Bool) :
    rds (law02_CodeDecoded.b1 N sizes w K) N (0, []) = K (softL w sizes) := by
  refine rds_spec (fun s : Int × List Int => ∃ k : Nat, k ≤ w.length ∧ s = ((k : Int), (List.range k).map fun i => softAt (w.getD i 0) (sizes.getD i 0))) (fun s => w.length - s.1.toNat) (fun _ => K (softL w sizes)) (fun rec s hI hrec => ?_) N (0, []) ⟨0, Nat.zero_le _, by simp⟩ (by simp; omega)
  obtain ⟨k, hk, rfl⟩ := hI
  show br (decide ((k : Int) < (w.length : Int))) _ _ = _
  by_cases hkl : k < w.length
  · rw [br_pos (by simpa using hkl), chk_pos (by omega), chk_pos (by omega), Int.toNat_natCast, Mod_eq _ _ _ (hi k (by omega)) (by decide), bnd_val, chk_pos (by simp; omega), w64_succ (by omega)]
    refine hrec _ ⟨k + 1, hkl, ?_⟩ (by simp only [Int.toNat_natCast]; omega)
    rw [softAt_w64 (bits_getD hw k) ⟨Int.emod_nonneg _ (by decide), Int.emod_lt_of_pos _ (by decide)⟩, List.range_succ, List.map_append]; rfl
  · have : k = w.length := by omega
    subst this
    rw [br_neg (by simp)]; rfl
end Go.Sh

/-
  Four examples of the code chapter.
-/
namespace Go.Sh
open Go.PW
theorem ex_Remainder {N : Nat} (hN : 100 < N) : code_Remainder N 3 3 [1] = some ([0, 1, 1], 0) := by
  have s3 : shlI 1 3 = 8 := by simpa using shl1_pow (p := 3) (by decide)
  have s2 : shlI 1 2 = 4 := by simpa using shl1_pow (p := 2) (by decide)
  have s0 : shlI 0 1 = 0 := by simpa using shlI_nat (a := 0) (b := 1) (by decide) (by decide)
  have a0 : andI 0 4 = 0 := by simpa using andI_nat (a := 0) (b := 4) (by decide) (by decide)
  have a1 : andI 0 7 = 0 := by simpa using andI_nat (a := 0) (b := 7) (by decide) (by decide)
  have x1 : xorI 0 3 = 3 := by simpa using xorI_nat (a := 0) (b := 3) (by decide) (by decide)
  have a2 : andI 3 4 = 0 := by simpa using andI_nat (a := 3) (b := 4) (by decide) (by decide)
  have a3 : andI 3 2 = 2 := by simpa using andI_nat (a := 3) (b := 2) (by decide) (by decide)
  have a4 : andI 3 1 = 1 := by simpa using andI_nat (a := 3) (b := 1) (by decide) (by decide)
  have r4 : shrI 4 1 = 2 := by simpa using shrI_nat (a := 4) (b := 1) (by decide)
  have r2 : shrI 2 1 = 1 := by simpa using shrI_nat (a := 2) (b := 1) (by decide)
  have r1 : shrI 1 1 = 0 := by simpa using shrI_nat (a := 1) (b := 1) (by decide)
  have w2 : w64 2 = 2 := w64_id (by decide)
  have w7 : w64 7 = 7 := w64_id (by decide)
  have w8 : w64 8 = 8 := w64_id (by decide)
  have w1 : w64 1 = 1 := w64_id (by decide)
  obtain ⟨n, rfl⟩ : ∃ n, N = n + 20 := ⟨N - 20, by omega⟩
  have c : code_CheckPoly (n + 20) 3 3 = some 0 := by
    simp [code_CheckPoly, within_eq, unless_eq, s3, w7, chk, first_eq, firstOf]
  have m : code_remainder (n + 20) 3 3 [1] = some [0, 1, 1] := by
    simp only [code_remainder, jn]
    rw [chk_pos (by simp [w2]), rds_succ, code_remainder.b1]
    simp [chk, w2, w7, w8, w1, s2, s0, a0, a1, x1]
    rw [rds_succ, code_remainder.b1]
    simp [chk, w2, s2]
    rw [rds_succ, code_remainder.b2]
    simp [chk, a2, r4]
    rw [rds_succ, code_remainder.b2]
    simp [chk, a3, r2]
    rw [rds_succ, code_remainder.b2]
    simp [chk, a4, r1]
    rw [rds_succ, code_remainder.b2]
    simp [chk, w2, s2, a2, a3, a4, r4, r2, r1]
  unfold code_Remainder
  rw [c, bnd_val, bitsErr_eq _ (by decide) (by simp) (by omega), bnd_val, first_eq _ (by simp) (by simp), bnd_val, m]
  rfl
theorem ex_word : wordL 2 (place [1, 2, 3] [1, 0, 1] (List.replicate (2 ^ 2) 0)) = [0, 0, 1, 1] := by
  have x00 : xorI 0 0 = 0 := by simpa using xorI_bits (a := 0) (b := 0) (by simp) (by simp)
  have x01 : xorI 0 1 = 1 := by simpa using xorI_bits (a := 0) (b := 1) (by simp) (by simp)
  have x10 : xorI 1 0 = 1 := by simpa using xorI_bits (a := 1) (b := 0) (by simp) (by simp)
  have x11 : xorI 1 1 = 0 := by simpa using xorI_bits (a := 1) (b := 1) (by simp) (by simp)
  have e : place [1, 2, 3] [1, 0, 1] (List.replicate (2 ^ 2) 0) = [0, 1, 0, 1] := by decide
  rw [e]
  simp [wordL, stepL, wordAt, List.range_succ, x00, x01, x10, x11, Nat.testBit]
theorem ex_polar : polarErr 2 [1, 2, 3] = 0 := by decide
theorem ex_in : ∀ x ∈ ([1, 2, 3] : List Int), 0 ≤ x ∧ x < ((2 ^ 2 : Nat) : Int) := by decide
theorem ex_Encode {N : Nat} (hN : 100 < N) : code_Encode N 2 [1, 2, 3] [1, 0, 1] = some ([0, 0, 1, 1], 0) := by
  rw [Encode_eq _ _ _ (by decide) (by decide) (by simp; omega) (by simp; omega) (by omega)]
  have h := encode_eq (N := N) (q := 2) (by decide) [1, 2, 3] [1, 0, 1] rfl ex_in (by decide) (by simp; omega) (by omega)
  rw [ex_word] at h
  rw [ex_polar, show listErr 200 isBitB 15 [1, 0, 1] = 0 by decide]
  rw [show ((2 : Nat) : Int) = 2 from rfl] at h
  rw [h]; rfl
theorem ex_Decode {N : Nat} (hN : 100 < N) : code_Decode N 2 [1, 2, 3] [4, 3, -2, -5] = some ([1, 0, 1], 0) := by
  have h := Decode_eq (N := N) (q := 2) (by decide) [1, 2, 3] [4, 3, -2, -5] (by decide) (by decide) (by simp; omega) (by simp; omega) (by omega) ex_polar (by decide) rfl
  rw [show ((2 : Nat) : Int) = 2 from rfl] at h
  rw [h, decode_eq (q := 2) (by decide) [1, 2, 3] [4, 3, -2, -5] (place [1, 2, 3] [1, 0, 1] (List.replicate (2 ^ 2) 0)) 2 (rising_of (by decide)) ex_in (by decide) (by simp; omega) (by omega) rfl rfl (by unfold bits; decide) ?_ ?_ ?_]
  · rfl
  · decide
  · rw [ex_word]; unfold signed; decide
  · decide
theorem ex_Match {N : Nat} (hN : 100 < N) : code_Match N [0, 0, 1, 1, 1] 1 7 = some ([0, 1, 1, 1, 0, 0, 1], 0) := by
  obtain ⟨n, rfl⟩ : ∃ n, N = n + 20 := ⟨N - 20, by omega⟩
  have m : code_match (n + 20) [0, 0, 1, 1, 1] 1 7 = some [0, 1, 1, 1, 0, 0, 1] := by
    simp only [code_match, jn]
    rw [rds_succ, code_match.b1]
    simp [chk, w64_eq]
    rw [rds_succ, code_match.b1]
    simp [chk, w64_eq]
    rw [rds_succ, code_match.b1]
    simp [chk, w64_eq]
    rw [rds_succ, code_match.b1]
    simp [chk, w64_eq]
    rw [rds_succ, code_match.b1]
    simp [chk, w64_eq]
    rw [rds_succ, code_match.b1]
    simp [chk, w64_eq]
    rw [rds_succ, code_match.b1]
    simp [chk, w64_eq]
    rw [rds_succ, code_match.b1]
    simp [chk, w64_eq]
  unfold code_Match
  rw [bitsErr_eq _ (by decide) (by simp) (by omega), bnd_val]
  simp only [code_isVersion, code_isCount, within_eq, unless_eq, bnd_val]
  rw [first_eq _ (by simp) (by simp), bnd_val, m]
  rfl
theorem awake_eq {N : Nat} (hN : 100 < N) : law02_awake N = some true := by
  unfold law02_awake law02_Poly law02_Polar
  simp only [bnd_val]
  rw [ex_Remainder hN, ex_Encode hN, ex_Decode hN, ex_Match hN]
  simp only [bnd_val]
  rw [Ints_eq _ _ (by decide) (by simp; omega), Ints_eq _ _ (by decide) (by simp; omega), Ints_eq _ _ (by decide) (by simp; omega), Ints_eq _ _ (by decide) (by simp; omega)]
  simp
end Go.Sh

/-
  RIGHT SIGNS ARE ENOUGH: the law's shallow function tells true.
-/
namespace Go.Sh
open Go.PW

theorem br_nt {α : Type} (a b : Option α) : br (!true) a b = b := rfl
theorem br_00 {α : Type} (a b : Option α) : br ((0 : Int) != 0) a b = b := rfl
theorem grd_same {α : Type} (g : Bool) (d : α) (x : Option α) (y : α) (h : g = true → x = some y) : grd g d x = some (if g then y else d) := by
  cases g
  · rfl
  · exact h rfl
theorem law_CodeDecoded {N : Nat} (p : Int) (info bits' sizes : List Int) (hi : inI64 sizes) (hN : 1000 < N) : law02_CodeDecoded N p info bits' sizes = some true := by
  unfold law02_CodeDecoded
  rw [awake_eq (by omega), bnd_val, br_nt]
  by_cases h1 : (info.length : Int) ≤ 66
  case neg =>
    simp [law02_small, h1]
  rw [law02_small, bnd_val, refCheckPolar_eq p info (by omega) (by omega) (by omega), decide_eq_true h1]
  simp only [Bool.not_true, Bool.not_false, grd_true, bnd_val, Bool.false_or]
  by_cases h2 : polarErr p info = 0
  case neg =>
    have : (polarErr p info != 0) = true := by rw [bne_iff_ne]; exact h2
    simp [this]
  obtain ⟨q, hq, rfl, hne, hin, hpw⟩ := polarErr_zero h2
  rw [h2]
  by_cases h3 : bits'.length = info.length
  case neg =>
    have : ((bits'.length : Int) != (info.length : Int)) = true := by rw [bne_iff_ne]; omega
    simp [this]
  have e3 : ((bits'.length : Int) != (info.length : Int)) = false := by rw [h3]; simp
  rw [e3, refBitsErr_eq bits' (by omega) (by omega)]
  simp only [Bool.or_false, bne_self_eq_false, Bool.not_false, grd_true, bnd_val]
  by_cases h4 : listErr 200 isBitB 15 bits' = 0
  case neg =>
    have : (listErr 200 isBitB 15 bits' != 0) = true := by rw [bne_iff_ne]; exact h4
    simp [this]
  obtain ⟨_, _, hall⟩ := listErr_zero (by decide) h4
  have hbits := bits_of_all hall
  have h64 := pow_le6 hq
  rw [h4, Length_eq info (by omega) (by omega)]
  simp only [bne_self_eq_false, Bool.false_or, Bool.not_false, grd_true, bnd_val]
  by_cases h5 : (sizes.length : Int) < ((2 ^ q : Nat) : Int)
  · rw [br_pos (by simpa using h5)]
  rw [br_neg (by simpa using h5), CopyPolar_eq _ _ _ (by omega), bnd_val, CopyInts_eq _ _ (by omega), bnd_val]
  have hEnc := Encode_eq (N := N) q info bits' (by omega) (by omega) (by omega) (by omega) (by omega)
  rw [h2, h4, if_pos h3] at hEnc
  rw [encode_eq hq info bits' h3 hin (by omega) (by omega) (by omega)] at hEnc
  have hu : (place info bits' (List.replicate (2 ^ q) 0)).length = 2 ^ q := by rw [place_length, List.length_replicate]
  have hub := place_bits info bits' (List.replicate (2 ^ q) 0) hbits (bits_replicate _)
  have hz : ∀ i, i < 2 ^ q → ((i : Nat) : Int) ∉ info → (place info bits' (List.replicate (2 ^ q) 0)).getD i 0 = 0 := fun i hi' hm => by
    rw [place_getD_out info bits' _ i (fun x hx => (hin x hx).1) hm, getD_eq (by simpa using hi')]; simp
  have hmap := place_map info bits' (List.replicate (2 ^ q) 0) hpw (fun x hx => by rw [List.length_replicate]; exact hin x hx) h3
  generalize place info bits' (List.replicate (2 ^ q) 0) = u at *
  have hw := wordL_bits q hub
  have hwl : (wordL q u).length = 2 ^ q := by rw [wordL_length, hu]
  have hEnc' : code_Encode N q info bits' = some (wordL q u, 0) := hEnc
  rw [hEnc', bnd_val]
  simp only [bne_self_eq_false, Bool.false_or, Bool.not_false, grd_true, bnd_val]
  rw [hwl]
  simp only [bne_self_eq_false, Bool.false_or, Bool.not_false, grd_true, bnd_val]
  rw [AreBits_eq _ (by omega) (by omega), bnd_val, all_of_bits hw]
  rw [br_nt]
  show rds (law02_CodeDecoded.b1 N sizes (wordL q u) _) N (0, []) = _
  rw [Decoded_b1_eq _ _ hw (by omega) (by omega) hi (by omega)]
  obtain ⟨hs1, hs2, hs3⟩ := softL_ok (s := sizes) hw
  rw [hwl] at hs1 hs2
  have hsl : (softL (wordL q u) sizes).length = 2 ^ q := by rw [softL_length, hwl]
  rw [Decode_eq hq info _ (by omega) (by omega) (by omega) (by omega) (by omega) h2 (listErr_ok (by have := Nat.two_pow_pos q; omega) (by omega) hs3) hsl]
  rw [decode_eq hq info _ u q (rising_of hpw) hin (by omega) (by omega) (by omega) hsl hu hub hz hs1 hs2, bnd_val, bnd_val, hmap, Ints_eq _ _ (show bits'.length < _ by omega) (show bits'.length < _ by omega)]
  simp
end Go.Sh

/-
  Plain words: loops that build a list, that fold, that look for a wrong element. For every program.
-/
namespace Go.PW

/-- A loop that appends one element a round. -/
theorem rds_map {α R : Type} (len : Nat) (f : Nat → α) (b : (Int × List α → Option R) → Int × List α → Option R) (K : List α → Option R)
    (hstep : ∀ k acc rec, k < len → acc.length = k → b rec ((k : Int), acc) = rec (((k + 1 : Nat) : Int), acc ++ [f k])) (hend : ∀ acc rec, acc.length = len → b rec ((len : Int), acc) = K acc)
    {N : Nat} (hN : len < N) : rds b N (0, []) = K ((List.range len).map f) := by
  refine rds_spec (fun s : Int × List α => ∃ k : Nat, k ≤ len ∧ s = ((k : Int), (List.range k).map f)) (fun s => len - s.1.toNat) (fun _ => K ((List.range len).map f)) (fun rec s hI hrec => ?_) N (0, []) ⟨0, Nat.zero_le _, by simp⟩ (by simp; omega)
  obtain ⟨k, hk, rfl⟩ := hI
  by_cases hkl : k < len
  · rw [hstep k _ rec hkl (by simp)]
    refine hrec _ ⟨k + 1, hkl, ?_⟩ (by simp only [Int.toNat_natCast]; omega)
    rw [List.range_succ, List.map_append]; rfl
  · have : k = len := by omega
    subst this
    exact hend _ rec (by simp)
/-- The same, the list in front. -/
theorem rds_mapR {α R : Type} (len : Nat) (f : Nat → α) (b : (List α × Int → Option R) → List α × Int → Option R) (K : List α → Option R)
    (hstep : ∀ k acc rec, k < len → acc.length = k → b rec (acc, (k : Int)) = rec (acc ++ [f k], ((k + 1 : Nat) : Int))) (hend : ∀ acc rec, acc.length = len → b rec (acc, (len : Int)) = K acc)
    {N : Nat} (hN : len < N) : rds b N ([], 0) = K ((List.range len).map f) := by
  refine rds_spec (fun s : List α × Int => ∃ k : Nat, k ≤ len ∧ s = ((List.range k).map f, (k : Int))) (fun s => len - s.2.toNat) (fun _ => K ((List.range len).map f)) (fun rec s hI hrec => ?_) N ([], 0) ⟨0, Nat.zero_le _, by simp⟩ (by simp; omega)
  obtain ⟨k, hk, rfl⟩ := hI
  by_cases hkl : k < len
  · rw [hstep k _ rec hkl (by simp)]
    refine hrec _ ⟨k + 1, hkl, ?_⟩ (by simp only [Int.toNat_natCast]; omega)
    rw [List.range_succ, List.map_append]; rfl
  · have : k = len := by omega
    subst this
    exact hend _ rec (by simp)
/-- So many rounds. -/
def itN {σ : Type} (g : Nat → σ → σ) : Nat → σ → σ
  | 0, s => s
  | n + 1, s => g n (itN g n s)
/-- A loop that folds, with what each round keeps. -/
theorem rds_it {σ R : Type} (len : Nat) (g : Nat → σ → σ) (I : Nat → σ → Prop) (b : (Int × σ → Option R) → Int × σ → Option R) (K : σ → Option R) {s : σ} (h0 : I 0 s)
    (hI : ∀ k s, k < len → I k s → I (k + 1) (g k s)) (hstep : ∀ k s rec, k < len → I k s → b rec ((k : Int), s) = rec (((k + 1 : Nat) : Int), g k s)) (hend : ∀ s rec, I len s → b rec ((len : Int), s) = K s)
    {N : Nat} (hN : len < N) : rds b N (0, s) = K (itN g len s) ∧ I len (itN g len s) := by
  have hIk : ∀ k, k ≤ len → I k (itN g k s) := fun k => by
    induction k with
    | zero => exact fun _ => h0
    | succ k ih => exact fun hk => hI k _ hk (ih (by omega))
  refine ⟨?_, hIk len (Nat.le_refl _)⟩
  refine rds_spec (fun x : Int × σ => ∃ k : Nat, k ≤ len ∧ x = ((k : Int), itN g k s)) (fun x => len - x.1.toNat) (fun _ => K (itN g len s)) (fun rec x hx hrec => ?_) N (0, s) ⟨0, Nat.zero_le _, rfl⟩ (by simp; omega)
  obtain ⟨k, hk, rfl⟩ := hx
  by_cases hkl : k < len
  · rw [hstep k _ rec hkl (hIk k hk)]
    exact hrec _ ⟨k + 1, hkl, rfl⟩ (by simp only [Int.toNat_natCast]; omega)
  · have : k = len := by omega
    subst this
    exact hend _ rec (hIk k hk)
/-- The same, the counter behind. -/
theorem rds_itR {σ R : Type} (len : Nat) (g : Nat → σ → σ) (I : Nat → σ → Prop) (b : (σ × Int → Option R) → σ × Int → Option R) (K : σ → Option R) {s : σ} (h0 : I 0 s)
    (hI : ∀ k s, k < len → I k s → I (k + 1) (g k s)) (hstep : ∀ k s rec, k < len → I k s → b rec (s, (k : Int)) = rec (g k s, ((k + 1 : Nat) : Int))) (hend : ∀ s rec, I len s → b rec (s, (len : Int)) = K s)
    {N : Nat} (hN : len < N) : rds b N (s, 0) = K (itN g len s) ∧ I len (itN g len s) := by
  have hIk : ∀ k, k ≤ len → I k (itN g k s) := fun k => by
    induction k with
    | zero => exact fun _ => h0
    | succ k ih => exact fun hk => hI k _ hk (ih (by omega))
  refine ⟨?_, hIk len (Nat.le_refl _)⟩
  refine rds_spec (fun x : σ × Int => ∃ k : Nat, k ≤ len ∧ x = (itN g k s, (k : Int))) (fun x => len - x.2.toNat) (fun _ => K (itN g len s)) (fun rec x hx hrec => ?_) N (s, 0) ⟨0, Nat.zero_le _, rfl⟩ (by simp; omega)
  obtain ⟨k, hk, rfl⟩ := hx
  by_cases hkl : k < len
  · rw [hstep k _ rec hkl (hIk k hk)]
    exact hrec _ ⟨k + 1, hkl, rfl⟩ (by simp only [Int.toNat_natCast]; omega)
  · have : k = len := by omega
    subst this
    exact hend _ rec (hIk k hk)
theorem any_drop {α : Type} (bad : α → Bool) (l : List α) (d : α) (k : Nat) (h : k < l.length) : (l.drop k).any bad = (bad (l.getD k d) || (l.drop (k + 1)).any bad) := by
  rw [List.drop_eq_getElem_cons h, List.any_cons]; simp [List.getD_eq_getElem?_getD, h]
/-- A loop that looks for a wrong element. -/
theorem rds_scan {α R : Type} (l : List α) (d : α) (bad : α → Bool) (e K : Option R) (b : (Int → Option R) → Int → Option R)
    (hstep : ∀ k rec, k < l.length → b rec (k : Int) = if bad (l.getD k d) = true then e else rec ((k + 1 : Nat) : Int)) (hend : ∀ rec, b rec (l.length : Int) = K)
    {N : Nat} (hN : l.length < N) : rds b N 0 = if l.any bad = true then e else K := by
  refine (rds_up1 l.length _ (fun k => if (l.drop k).any bad = true then e else K) (fun k rec hk hr => ?_) (fun rec => ?_) hN).trans (by simp)
  · rw [hstep k rec hk, hr, any_drop bad l d k hk]
    cases bad (l.getD k d) <;> simp
  · rw [hend]; simp
/-- Ways that meet with two values. -/
theorem br_K {τ R : Type} (c : Bool) (K : τ → Option R) (a b : τ) : br c (K a) (K b) = K (if c = true then a else b) := by cases c <;> rfl
theorem bnd_assoc {α β γ : Type} (x : Option α) (f : α → Option β) (g : β → Option γ) : bnd (bnd x f) g = bnd x fun a => bnd (f a) g := by cases x <;> rfl
end Go.PW

/-
  The bits of a version, gathered soft bits, sums of both.
-/
namespace Go.Sh
open Go.PW

def rangeErr (lo hi e n : Int) : Int := if lo ≤ n ∧ n ≤ hi then 0 else e
theorem unless_range (N : Nat) (lo hi e n : Int) : code_unless N (decide (lo ≤ n) && decide (n ≤ hi)) e = some (rangeErr lo hi e n) := by
  rw [unless_eq]; unfold rangeErr
  by_cases h1 : lo ≤ n <;> by_cases h2 : n ≤ hi <;> simp [h1, h2]
theorem isVersion_eq (N : Nat) (n : Int) : code_isVersion N n = some (decide (0 ≤ n) && decide (n ≤ 3)) := rfl
theorem isCount_eq (N : Nat) (n : Int) : code_isCount N n = some (decide (1 ≤ n) && decide (n ≤ 400)) := rfl
theorem isLength_eq (N : Nat) (n : Int) : code_isLength N n = some (decide (1 ≤ n) && decide (n ≤ 200)) := rfl
theorem refRange {lo hi e n : Int} : br (!(decide (lo ≤ n) && decide (n ≤ hi))) (some e) (some 0) = some (rangeErr lo hi e n) := by
  unfold rangeErr
  by_cases h1 : lo ≤ n <;> by_cases h2 : n ≤ hi <;> simp [h1, h2]
theorem VersionErr_eq (N : Nat) (n : Int) : ref02_VersionErr N n = some (rangeErr 0 3 15 n) := refRange
theorem CountErr_eq (N : Nat) (n : Int) : ref02_CountErr N n = some (rangeErr 1 400 2 n) := refRange
theorem LengthErr_eq (N : Nat) (n : Int) : ref02_LengthErr N n = some (rangeErr 1 200 2 n) := refRange
theorem rangeErr_zero {lo hi e n : Int} (he : e ≠ 0) (h : rangeErr lo hi e n = 0) : lo ≤ n ∧ n ≤ hi := by
  unfold rangeErr at h
  by_cases h1 : lo ≤ n ∧ n ≤ hi
  · exact h1
  · rw [if_neg h1] at h; exact absurd h he

/-- Sizes. -/
def sizeB (m x : Int) : Bool := decide (-m ≤ x) && decide (x ≤ m)
theorem isSoftB_size : isSoftB = sizeB 1000000 := rfl
theorem sizedErr_eq {N : Nat} (l : List Int) (count size : Int) (hs : 0 ≤ size ∧ size ≤ 4611686018427387904) (hl : l.length < 4611686018427387904) (hN : l.length < N) : ref02_sizedErr N l count size = some (listErr count (sizeB size) 2 l) := by
  unfold ref02_sizedErr listErr
  by_cases h0 : l.length = 0
  · rw [br_pos (by rw [h0]; rfl), if_pos h0]
  rw [br_neg (by rw [beq_eq_false_iff_ne]; omega), if_neg h0]
  by_cases h1 : (l.length : Int) > count
  · rw [br_pos (by simpa using h1), if_pos h1]
  rw [br_neg (by simpa using h1), if_neg h1]
  show rds (ref02_sizedErr.b1 N l size fun _ => some 0) N 0 = _
  rw [rds_scan l 0 (fun x => !sizeB size x) (some 2) (some 0) _ (fun k rec hk => ?_) (fun rec => ?_) hN]
  · by_cases h : l.all (sizeB size) = true
    · rw [if_neg (by rw [List.all_eq_not_any_not] at h; simpa using h), if_pos h]
    · rw [if_pos (by rw [List.all_eq_not_any_not] at h; simpa using h), if_neg h]
  · show br (decide ((k : Int) < (l.length : Int))) _ _ = _
    rw [br_pos (by simpa using hk), chk_pos (by omega), Within_eq, bnd_val, w64_id (n := 0 - size) (by omega), w64_succ (by omega), Int.toNat_natCast, show (0 : Int) - size = -size by omega]
    unfold sizeB
    cases h : (decide (-size ≤ l.getD k 0) && decide (l.getD k 0 ≤ size)) <;> simp
  · show br (decide ((l.length : Int) < (l.length : Int))) _ _ = _
    rw [br_neg (by simp)]
theorem sumsErr_eq {N : Nat} (l : List Int) (hl : l.length < 4611686018427387904) (hN : l.length < N) (hN3 : 3 < N) : code_sumsErr N l = some (listErr 200 (sizeB 1000000000) 2 l) := by
  unfold code_sumsErr
  rw [listErr_eq l 200 2 _ (sizeB 1000000000) (fun x _ => ?_) hl hN hN3, bnd_val]; · rfl
  unfold code_upTo_1
  rw [w64_id (by decide)]; rfl
theorem refSoftErr_eq {N : Nat} (l : List Int) (hl : l.length < 4611686018427387904) (hN : l.length < N) : ref02_SoftErr N l = some (listErr 400 isSoftB 2 l) := by
  unfold ref02_SoftErr
  rw [sizedErr_eq l _ _ (by decide) hl hN]; rfl
theorem refSumsErr_eq {N : Nat} (l : List Int) (hl : l.length < 4611686018427387904) (hN : l.length < N) : ref02_SumsErr N l = some (listErr 200 (sizeB 1000000000) 2 l) := by
  unfold ref02_SumsErr
  rw [sizedErr_eq l _ _ (by decide) hl hN]; rfl

/-- The place of a number. -/
def placeN (len v k : Nat) : Nat := (v * len / 4 + k) % len
theorem placeN_lt {len v k : Nat} (h : 0 < len) : placeN len v k < len := Nat.mod_lt _ h
theorem place_w64 {len v k : Nat} (h : 0 < len) (hl : len ≤ 1000) (hv : v ≤ 3) (hk : k ≤ 1000) :
    (w64 ((w64 ((w64 ((v : Int) * (len : Int))).tdiv (4 : Int))) + (k : Int))).tmod (len : Int) = (placeN len v k : Int) := by
  have h1 : v * len ≤ 3000 := Nat.le_trans (Nat.mul_le_mul hv hl) (by decide)
  have h2 : ((v : Int) * (len : Int)) = ((v * len : Nat) : Int) := by push_cast; rfl
  rw [h2, w64_nat (by omega), Int.tdiv_eq_ediv_of_nonneg (by omega), show (((v * len : Nat) : Int) / 4) = ((v * len / 4 : Nat) : Int) by push_cast; rfl, w64_nat (by omega)]
  rw [show (((v * len / 4 : Nat) : Int) + (k : Int)) = ((v * len / 4 + k : Nat) : Int) by push_cast; rfl, w64_nat (by omega), Int.tmod_eq_emod_of_nonneg (by omega)]
  unfold placeN; push_cast; rfl
theorem refplace_eq {N len v k : Nat} (h : 0 < len) (hl : len ≤ 1000) (hv : v ≤ 3) (hk : k ≤ 1000) : ref02_place N len v k = some (placeN len v k : Int) := by
  unfold ref02_place
  rw [chk_pos (by omega), place_w64 h hl hv hk]

def matchL (word : List Int) (v n : Nat) : List Int := (List.range n).map fun k => word.getD (placeN word.length v k) 0
theorem match_eq {N : Nat} (word : List Int) (v n : Nat) (h : 0 < word.length) (hl : word.length ≤ 1000) (hv : v ≤ 3) (hn : n ≤ 1000) (hN : n < N) : code_match N word v n = some (matchL word v n) := by
  unfold code_match jn
  refine rds_map n (fun k => word.getD (placeN word.length v k) 0) _ some (fun k acc rec hk ha => ?_) (fun acc rec _ => ?_) hN
  · show br (decide ((k : Int) < (n : Int))) _ _ = _
    have hp := placeN_lt (v := v) (k := k) h
    rw [br_pos (by simpa using hk), chk_pos (by omega), place_w64 h hl hv (by omega), chk_pos (by omega), chk_pos (by simp; omega), br_nt, w64_succ (by omega), Int.toNat_natCast]
  · show br (decide ((n : Int) < (n : Int))) _ _ = _
    rw [br_neg (by simp)]
theorem refMatch_eq {N : Nat} (word : List Int) (v n : Nat) (h : 0 < word.length) (hl : word.length ≤ 1000) (hv : v ≤ 3) (hn : n ≤ 1000) (hN : n < N) : ref02_Match N word v n = some (matchL word v n) := by
  unfold ref02_Match jn
  refine rds_map n (fun k => word.getD (placeN word.length v k) 0) _ some (fun k acc rec hk ha => ?_) (fun acc rec _ => ?_) hN
  · show br (decide ((k : Int) < (n : Int))) _ _ = _
    have hp := placeN_lt (v := v) (k := k) h
    rw [br_pos (by simpa using hk), refplace_eq h hl hv (by omega), bnd_val, chk_pos (by omega), chk_pos (by simp; omega), w64_succ (by omega), Int.toNat_natCast]
  · show br (decide ((n : Int) < (n : Int))) _ _ = _
    rw [br_neg (by simp)]
theorem Match_eq {N : Nat} (word : List Int) (v n : Int) (hl : word.length < 4611686018427387904) (hN : word.length < N) (hN2 : 400 < N) :
    code_Match N word v n = some (if firstOf [listErr 200 isBitB 15 word, rangeErr 0 3 15 v, rangeErr 1 400 2 n] = 0 then matchL word v.toNat n.toNat else [], firstOf [listErr 200 isBitB 15 word, rangeErr 0 3 15 v, rangeErr 1 400 2 n]) := by
  unfold code_Match
  rw [bitsErr_eq word hl hN (by omega), bnd_val, isVersion_eq, bnd_val, unless_range, bnd_val, isCount_eq, bnd_val, unless_range, bnd_val, first_eq _ (by simp) (by simp; omega), bnd_val]
  by_cases h : firstOf [listErr 200 isBitB 15 word, rangeErr 0 3 15 v, rangeErr 1 400 2 n] = 0
  · rw [if_pos h, h, br_00]
    obtain ⟨h1, h2, h3⟩ : listErr 200 isBitB 15 word = 0 ∧ rangeErr 0 3 15 v = 0 ∧ rangeErr 1 400 2 n = 0 := by
      simp only [firstOf] at h
      split at h
      · split at h
        · split at h
          · exact ⟨‹_›, ‹_›, ‹_›⟩
          · exact absurd h ‹_›
        · exact absurd h ‹_›
      · exact absurd h ‹_›
    obtain ⟨a1, a2, _⟩ := listErr_zero (by decide) h1
    obtain ⟨b1, b2⟩ := rangeErr_zero (by decide) h2
    obtain ⟨c1, c2⟩ := rangeErr_zero (by decide) h3
    have := match_eq (N := N) word v.toNat n.toNat (by omega) (by omega) (by omega) (by omega) (by omega)
    rw [Int.toNat_of_nonneg b1, Int.toNat_of_nonneg (by omega : 0 ≤ n)] at this
    rw [this, bnd_val]
  · rw [if_neg h, br_pos (by rw [bne_iff_ne]; exact h)]
end Go.Sh

/-
  The bits of a version, gathered soft bits, sums of both: the law's shallow function tells true.
-/
namespace Go.Sh
open Go.PW

theorem firstOf3 {a b c : Int} (h : firstOf [a, b, c] = 0) : a = 0 ∧ b = 0 ∧ c = 0 := by
  simp only [firstOf] at h
  split at h
  · split at h
    · split at h
      · exact ⟨‹_›, ‹_›, ‹_›⟩
      · exact absurd h ‹_›
    · exact absurd h ‹_›
  · exact absurd h ‹_›
noncomputable def gatherStep (soft : List Int) (len v k : Nat) (s : List Int) : List Int := s.set (placeN len v k) (w64 (s.getD (placeN len v k) 0 + soft.getD k 0))
noncomputable def gatherL (soft : List Int) (v len : Nat) : List Int := itN (gatherStep soft len v) soft.length (List.replicate len 0)
theorem gathered_eq {N : Nat} (soft : List Int) (v len : Nat) (hs : soft.length ≤ 1000) (h : 0 < len) (hl : len ≤ 1000) (hv : v ≤ 3) (hN : soft.length < N) : code_gathered N soft v len = some (gatherL soft v len) := by
  unfold code_gathered
  rw [chk_pos (by omega)]
  refine (rds_it soft.length (gatherStep soft len v) (fun _ s => s.length = len) _ some (s := List.replicate len 0) (by simp) (fun k s _ hs => by simpa [gatherStep] using hs) (fun k s rec hk hI => ?_) (fun s rec _ => ?_) hN).1
  · show br (decide ((k : Int) < (soft.length : Int))) _ _ = _
    have hp := placeN_lt (v := v) (k := k) h
    rw [br_pos (by simpa using hk), chk_pos (by omega), place_w64 h hl hv (by omega), chk_pos (by omega), chk_pos (by omega), chk_pos (by omega), br_nt, w64_succ (by omega), Int.toNat_natCast, Int.toNat_natCast]
    rfl
  · show br (decide ((soft.length : Int) < (soft.length : Int))) _ _ = _
    rw [br_neg (by simp)]
theorem refGathered_eq {N : Nat} (soft : List Int) (v len : Nat) (hs : soft.length ≤ 1000) (h : 0 < len) (hl : len ≤ 1000) (hv : v ≤ 3) (hN : soft.length < N) : ref02_Gathered N soft v len = some (gatherL soft v len) := by
  unfold ref02_Gathered
  rw [chk_pos (by omega)]
  refine (rds_it soft.length (gatherStep soft len v) (fun _ s => s.length = len) _ some (s := List.replicate len 0) (by simp) (fun k s _ hs => by simpa [gatherStep] using hs) (fun k s rec hk hI => ?_) (fun s rec _ => ?_) hN).1
  · show br (decide ((k : Int) < (soft.length : Int))) _ _ = _
    have hp := placeN_lt (v := v) (k := k) h
    rw [br_pos (by simpa using hk), refplace_eq h hl hv (by omega), bnd_val, chk_pos (by omega), chk_pos (by omega), chk_pos (by omega), w64_succ (by omega), Int.toNat_natCast, Int.toNat_natCast]
    rfl
  · show br (decide ((soft.length : Int) < (soft.length : Int))) _ _ = _
    rw [br_neg (by simp)]
theorem gatherL_length (soft : List Int) (v len : Nat) : (gatherL soft v len).length = len := by
  unfold gatherL
  generalize soft.length = n
  induction n with
  | zero => simp [itN]
  | succ n ih => rw [itN, gatherStep, List.length_set, ih]
theorem Gathered_eq {N : Nat} (soft : List Int) (v len : Int) (hl : soft.length < 4611686018427387904) (hN : soft.length < N) (hN2 : 400 < N) :
    code_Gathered N soft v len = some (if firstOf [listErr 400 isSoftB 2 soft, rangeErr 0 3 15 v, rangeErr 1 200 2 len] = 0 then gatherL soft v.toNat len.toNat else [], firstOf [listErr 400 isSoftB 2 soft, rangeErr 0 3 15 v, rangeErr 1 200 2 len]) := by
  unfold code_Gathered
  rw [softErr_eq soft hl hN (by omega), bnd_val, isVersion_eq, bnd_val, unless_range, bnd_val, isLength_eq, bnd_val, unless_range, bnd_val, first_eq _ (by simp) (by simp; omega), bnd_val]
  by_cases h : firstOf [listErr 400 isSoftB 2 soft, rangeErr 0 3 15 v, rangeErr 1 200 2 len] = 0
  · rw [if_pos h, h, br_00]
    obtain ⟨h1, h2, h3⟩ := firstOf3 h
    obtain ⟨a1, a2, _⟩ := listErr_zero (by decide) h1
    obtain ⟨b1, b2⟩ := rangeErr_zero (by decide) h2
    obtain ⟨c1, c2⟩ := rangeErr_zero (by decide) h3
    have := gathered_eq (N := N) soft v.toNat len.toNat (by omega) (by omega) (by omega) (by omega) (by omega)
    rw [Int.toNat_of_nonneg b1, Int.toNat_of_nonneg (by omega : 0 ≤ len)] at this
    rw [this, bnd_val]
  · rw [if_neg h, br_pos (by rw [bne_iff_ne]; exact h)]

noncomputable def sumL (a b : List Int) : List Int := (List.range a.length).map fun k => w64 (a.getD k 0 + b.getD k 0)
theorem sumL_length (a b : List Int) : (sumL a b).length = a.length := by simp [sumL]
theorem combined_eq {N : Nat} (a b : List Int) (h : b.length = a.length) (ha : a.length ≤ 1000) (hN : a.length < N) (hN3 : 3 < N) :
    code_combined N a b = some (if (sumL a b).all (sizeB 1000000000) = true then (sumL a b, 0) else ([], 8)) := by
  unfold code_combined jn
  refine (rds_map a.length (fun k => w64 (a.getD k 0 + b.getD k 0)) _ (fun l => bnd (slices_ContainsFunc_ii N l fun y0 => code_combined_1 N y0) fun x1 => br x1 (some ([], 8)) (some (l, 0))) (fun k acc rec hk hac => ?_) (fun acc rec _ => ?_) hN).trans ?_
  · show br (decide ((k : Int) < (a.length : Int))) _ _ = _
    rw [br_pos (by simpa using hk), chk_pos (by omega), chk_pos (by omega), chk_pos (by simp; omega), w64_succ (by omega), Int.toNat_natCast]
  · show br (decide ((a.length : Int) < (a.length : Int))) _ _ = _
    rw [br_neg (by simp)]
  · show bnd (slices_ContainsFunc_ii N (sumL a b) _) _ = _
    rw [ContainsFunc_eq (sumL a b) _ (fun x => !sizeB 1000000000 x) (fun x _ => ?_) (by rw [sumL_length]; omega) (by rw [sumL_length]; omega), bnd_val]
    · rw [List.all_eq_not_any_not]
      show br ((sumL a b).any fun x => !sizeB 1000000000 x) _ (some (sumL a b, 0)) = _
      cases (sumL a b).any fun x => !sizeB 1000000000 x <;> rfl
    · unfold code_combined_1 code_isSum code_upTo_1
      rw [w64_id (by decide)]; rfl
theorem refCombined_eq {N : Nat} (a b : List Int) (h0 : 0 < a.length) (ha : a.length ≤ 200) (hN : a.length < N) :
    ref02_Combined N a b = some (if a.length ≠ b.length then ([], 13) else if (sumL a b).all (sizeB 1000000000) = true then (sumL a b, 0) else ([], 8)) := by
  unfold ref02_Combined jn
  by_cases h : a.length = b.length
  case neg =>
    rw [br_pos (by rw [bne_iff_ne]; omega), if_pos h]
  rw [br_neg (by rw [h]; simp), if_neg (by simpa using h)]
  refine (rds_map a.length (fun k => w64 (a.getD k 0 + b.getD k 0)) _ (fun l => bnd (ref02_SumsErr N l) fun x1 => br (x1 != 0) (some ([], 8)) (some (l, 0))) (fun k acc rec hk hac => ?_) (fun acc rec _ => ?_) hN).trans ?_
  · show br (decide ((k : Int) < (a.length : Int))) _ _ = _
    rw [br_pos (by simpa using hk), chk_pos (by omega), chk_pos (by omega), chk_pos (by simp; omega), w64_succ (by omega), Int.toNat_natCast]
  · show br (decide ((a.length : Int) < (a.length : Int))) _ _ = _
    rw [br_neg (by simp)]
  · show bnd (ref02_SumsErr N (sumL a b)) _ = _
    rw [refSumsErr_eq _ (by rw [sumL_length]; omega) (by rw [sumL_length]; omega), bnd_val]
    unfold listErr
    rw [sumL_length, if_neg (by omega), if_neg (by omega)]
    show br _ _ (some (sumL a b, 0)) = _
    cases (sumL a b).all (sizeB 1000000000) <;> rfl
theorem Combined_eq {N : Nat} (a b : List Int) (hl : a.length < 4611686018427387904) (hl2 : b.length < 4611686018427387904) (hN : a.length < N) (hN2 : b.length < N) (hN3 : 400 < N) :
    code_Combined N a b = some (let e := firstOf [listErr 200 (sizeB 1000000000) 2 a, listErr 200 (sizeB 1000000000) 2 b, if a.length = b.length then 0 else 13]
      if e ≠ 0 then ([], e) else if (sumL a b).all (sizeB 1000000000) = true then (sumL a b, 0) else ([], 8)) := by
  unfold code_Combined
  rw [sumsErr_eq a hl hN (by omega), bnd_val, sumsErr_eq b hl2 hN2 (by omega), bnd_val, unless_eq, bnd_val, first_eq _ (by simp) (by simp; omega), bnd_val]
  have e : (if ((a.length : Int) == (b.length : Int)) = true then (0 : Int) else 13) = if a.length = b.length then 0 else 13 := by
    by_cases h : a.length = b.length
    · rw [if_pos h, if_pos (by rw [h]; exact beq_self_eq_true _)]
    · rw [if_neg h, if_neg (by rw [beq_iff_eq]; omega)]
  rw [e]
  by_cases h : firstOf [listErr 200 (sizeB 1000000000) 2 a, listErr 200 (sizeB 1000000000) 2 b, if a.length = b.length then 0 else 13] = 0
  · obtain ⟨h1, h2, h3⟩ := firstOf3 h
    obtain ⟨a1, a2, _⟩ := listErr_zero (by decide) h1
    have hb : b.length = a.length := by
      by_cases hb : a.length = b.length
      · exact hb.symm
      · rw [if_neg hb] at h3; exact absurd h3 (by decide)
    simp only [h]
    rw [br_00, combined_eq a b hb (by omega) hN (by omega), bnd_val]
    simp
  · rw [br_pos (by rw [bne_iff_ne]; exact h)]; simp only [h, ne_eq, not_false_iff, if_true]

theorem few_eq {N : Nat} {l : List Int} {m : Int} (hm : 0 ≤ m ∧ m ≤ 1000) : law02_few N l m = some (decide ((l.length : Int) ≤ 40) || (decide ((l.length : Int) > m) && decide ((l.length : Int) ≤ m + 2))) := by
  unfold law02_few
  rw [w64_id (by omega)]
theorem few_le {l : List Int} {m : Int} (hm : 0 ≤ m ∧ m ≤ 1000) (h : (decide ((l.length : Int) ≤ 40) || (decide ((l.length : Int) > m) && decide ((l.length : Int) ≤ m + 2))) = true) : l.length ≤ 1042 := by
  simp at h; omega
/-- The first error of three, as the law asks for it. -/
theorem chain3 {R : Type} (a b c : Int) (rest : Int → Option R) :
    jn (τ := Int) (fun d => jn (τ := Int) rest fun K => br (d == 0) (bnd (some c) fun x => K x) (K d)) (fun K => br (a == 0) (bnd (some b) fun x => K x) (K a)) = rest (firstOf [a, b, c]) := by
  unfold jn
  simp only [bnd_val, br_K, firstOf, beq_iff_eq]
  by_cases ha : a = 0
  · rw [if_pos ha, if_pos ha]
    by_cases hb : b = 0
    · rw [if_pos hb, if_pos hb]; by_cases hc : c = 0 <;> simp [hc]
    · rw [if_neg hb, if_neg hb]
  · rw [if_neg ha, if_neg ha, if_neg ha]
/-- The first error of two. -/
theorem chain2 {R : Type} (a b : Int) (rest : Int → Option R) : jn (τ := Int) rest (fun K => br (a == 0) (bnd (some b) fun x => K x) (K a)) = rest (firstOf [a, b]) := by
  unfold jn
  simp only [bnd_val, br_K, firstOf, beq_iff_eq]
  by_cases ha : a = 0
  · rw [if_pos ha, if_pos ha]; by_cases hb : b = 0 <;> simp [hb]
  · rw [if_neg ha, if_neg ha]
/-- A list with its error, held against the reference. -/
theorem held {N : Nat} (e : Int) (m : List Int) (ref : Option (List Int)) (rest : Option Bool) (h0 : e = 0 → ref = some m) (h1 : e ≠ 0 → m = []) (hl : m.length < 4611686018427387904) (hN : m.length < N) :
    (bnd (grd ((!((e != e) || ((e != (0 : Int)) && (decide ((m.length : Int) > (0 : Int)))))) && (e == (0 : Int))) default ref) fun x16 =>
      bnd (grd ((!((e != e) || ((e != (0 : Int)) && (decide ((m.length : Int) > (0 : Int)))))) && (e == (0 : Int))) false (base_Ints N m x16)) fun x17 =>
      br ((((e != e) || ((e != (0 : Int)) && (decide ((m.length : Int) > (0 : Int))))) || ((e == (0 : Int)) && (!x17)))) (some false) rest) = rest := by
  by_cases h : e = 0
  · subst h
    rw [h0 rfl]
    simp only [bne_self_eq_false, Bool.false_or, Bool.false_and, Bool.not_false, Bool.true_and, beq_self_eq_true, grd_true, bnd_val]
    rw [Ints_eq _ _ hl hN]
    simp
  · have hm := h1 h
    subst hm
    have e1 : (e == 0) = false := by rw [beq_eq_false_iff_ne]; exact h
    simp [e1]
theorem pairEq {N : Nat} {p q : List Int × Int} (h : p = q) (hl : p.1.length < 4611686018427387904) (hN : p.1.length < N) : (bnd (grd (p.2 == q.2) false (base_Ints N p.1 q.1)) fun x => some (p.2 == q.2 && x)) = some true := by
  subst h
  rw [beq_self_eq_true, grd_true, Ints_eq _ _ hl hN]; simp
theorem firstOf2 {a b : Int} (h : firstOf [a, b] = 0) : a = 0 ∧ b = 0 := by
  simp only [firstOf] at h
  split at h
  · split at h
    · exact ⟨‹_›, ‹_›⟩
    · exact absurd h ‹_›
  · exact absurd h ‹_›
theorem firstOf23 {a b c : Int} : firstOf [a, b, c] = if firstOf [a, b] = 0 then (if c = 0 then 0 else c) else firstOf [a, b] := by
  by_cases ha : a = 0
  · by_cases hb : b = 0 <;> simp [firstOf, ha, hb]
  · simp [firstOf, ha]
theorem law_CodeVersions {N : Nat} (l soft : List Int) (v n len : Int) (hN : 2000 < N) : law02_CodeVersions N l soft v n len = some true := by
  unfold law02_CodeVersions
  rw [awake_eq (by omega), bnd_val, br_nt, few_eq (by decide), bnd_val, few_eq (by decide)]
  cases f1 : (decide ((l.length : Int) ≤ 40) || (decide ((l.length : Int) > 200) && decide ((l.length : Int) ≤ 200 + 2)))
  · simp [f1, Within_eq]
  cases f2 : (decide ((soft.length : Int) ≤ 40) || (decide ((soft.length : Int) > 400) && decide ((soft.length : Int) ≤ 400 + 2)))
  · simp [f1, f2, Within_eq]
  have l1 := few_le (by decide) f1
  have l2 := few_le (by decide) f2
  simp only [f1, f2, Bool.not_true, Bool.not_false, grd_true, bnd_val, Bool.false_or, Bool.or_false, Within_eq]
  cases f3 : (decide (61 ≤ n) && decide (n ≤ 400))
  case true =>
    simp [f3]
  cases f4 : (decide (61 ≤ len) && decide (len ≤ 200))
  case true =>
    simp [f3, f4]
  simp only [f3, f4, Bool.not_true, Bool.not_false, grd_true, bnd_val, Bool.false_or, Bool.or_false, br_false]
  rw [CopyInts_eq _ _ (by omega), bnd_val, Match_eq l v n (by omega) (by omega) (by omega), bnd_val, CopyInts_eq _ _ (by omega), bnd_val, Gathered_eq soft v len (by omega) (by omega) (by omega), bnd_val]
  simp only [bnd_val]
  rw [Combined_eq l soft (by omega) (by omega) (by omega) (by omega) (by omega), bnd_val, refBitsErr_eq l (by omega) (by omega), bnd_val, VersionErr_eq, CountErr_eq]
  rw [chain3]
  refine (held _ _ _ _ (fun h => ?_) (fun h => if_neg h) ?_ ?_).trans ?_
  · rw [if_pos h]
    obtain ⟨h1, h2, h3⟩ := firstOf3 h
    obtain ⟨a1, a2, _⟩ := listErr_zero (by decide) h1
    obtain ⟨b1, b2⟩ := rangeErr_zero (by decide) h2
    obtain ⟨c1, c2⟩ := rangeErr_zero (by decide) h3
    have := refMatch_eq (N := N) l v.toNat n.toNat (by omega) (by omega) (by omega) (by omega) (by omega)
    rwa [Int.toNat_of_nonneg b1, Int.toNat_of_nonneg (by omega : 0 ≤ n)] at this
  · split
    · rename_i h
      obtain ⟨c1, c2⟩ := rangeErr_zero (by decide) (firstOf3 h).2.2
      simp only [matchL, List.length_map, List.length_range]; omega
    · simp
  · split
    · rename_i h
      obtain ⟨c1, c2⟩ := rangeErr_zero (by decide) (firstOf3 h).2.2
      simp only [matchL, List.length_map, List.length_range]; omega
    · simp; omega
  rw [refSoftErr_eq soft (by omega) (by omega), bnd_val, LengthErr_eq, chain3]
  refine (held _ _ _ _ (fun h => ?_) (fun h => if_neg h) ?_ ?_).trans ?_
  · rw [if_pos h]
    obtain ⟨h1, h2, h3⟩ := firstOf3 h
    obtain ⟨a1, a2, _⟩ := listErr_zero (by decide) h1
    obtain ⟨b1, b2⟩ := rangeErr_zero (by decide) h2
    obtain ⟨c1, c2⟩ := rangeErr_zero (by decide) h3
    have := refGathered_eq (N := N) soft v.toNat len.toNat (by omega) (by omega) (by omega) (by omega) (by omega)
    rwa [Int.toNat_of_nonneg b1, Int.toNat_of_nonneg (by omega : 0 ≤ len)] at this
  · split
    · rename_i h
      obtain ⟨c1, c2⟩ := rangeErr_zero (by decide) (firstOf3 h).2.2
      rw [gatherL_length]; omega
    · simp
  · split
    · rename_i h
      obtain ⟨c1, c2⟩ := rangeErr_zero (by decide) (firstOf3 h).2.2
      rw [gatherL_length]; omega
    · simp; omega
  rw [refSumsErr_eq l (by omega) (by omega), bnd_val, refSumsErr_eq soft (by omega) (by omega), chain2]
  rw [firstOf23]
  by_cases h : firstOf [listErr 200 (sizeB 1000000000) 2 l, listErr 200 (sizeB 1000000000) 2 soft] = 0
  · obtain ⟨h1, h2⟩ := firstOf2 h
    obtain ⟨a1, a2, _⟩ := listErr_zero (by decide) h1
    rw [br_pos (by rw [h]; rfl), refCombined_eq l soft (by omega) (by omega) (by omega), bnd_val]
    refine pairEq ?_ ?_ ?_
    · rw [if_pos h]
      by_cases hs : l.length = soft.length <;> simp [hs]
    · rw [if_pos h]
      by_cases hs : l.length = soft.length
      · cases ha : (sumL l soft).all (sizeB 1000000000) <;> simp [hs, sumL_length] <;> omega
      · simp [hs]
    · rw [if_pos h]
      by_cases hs : l.length = soft.length
      · cases ha : (sumL l soft).all (sizeB 1000000000) <;> simp [hs, sumL_length] <;> omega
      · simp [hs]; omega
  · rw [if_neg h, br_neg (by rw [beq_eq_false_iff_ne]; exact h)]
    refine pairEq (q := ([], firstOf [listErr 200 (sizeB 1000000000) 2 l, listErr 200 (sizeB 1000000000) 2 soft])) ?_ ?_ ?_
    · simp only [ne_eq, h, not_false_iff, if_true]
    · simp only [ne_eq, h, not_false_iff, if_true]; decide
    · simp only [ne_eq, h, not_false_iff, if_true]; simp; omega
end Go.Sh

/-
  Words of polar codes: weights.
-/
namespace Go.Sh
open Go.PW

/-- How many ones a number has. -/
def pcN : Nat → Nat
  | 0 => 0
  | n + 1 => (n + 1) % 2 + pcN ((n + 1) / 2)
theorem pcN_eq (n : Nat) : pcN n = n % 2 + pcN (n / 2) := by
  cases n with
  | zero => simp [pcN]
  | succ n => rw [pcN]
theorem pcN_high : ∀ (m i : Nat), i < 2 ^ m → pcN (2 ^ m + i) = pcN i + 1
  | 0, i, h => by
    have : i = 0 := by simpa using h
    subst this
    simp [pcN]
  | m + 1, i, h => by
    rw [Nat.pow_succ] at h ⊢
    rw [pcN_eq (2 ^ m * 2 + i), pcN_eq i, show (2 ^ m * 2 + i) % 2 = i % 2 by omega, show (2 ^ m * 2 + i) / 2 = 2 ^ m + i / 2 by omega, pcN_high m (i / 2) (by omega)]
    omega
/-- How many ones bits have. -/
def wt : List Int → Nat
  | [] => 0
  | x :: l => (if x = 1 then 1 else 0) + wt l
theorem wt_append : ∀ (a b : List Int), wt (a ++ b) = wt a + wt b
  | [], b => by simp [wt]
  | x :: a, b => by rw [List.cons_append, wt, wt, wt_append a b]; omega
theorem wt_zero : ∀ (n : Nat), wt (List.replicate n 0) = 0
  | 0 => rfl
  | n + 1 => by rw [List.replicate_succ, wt, wt_zero n]; rfl
theorem zipX_nil (b : List Int) : zipX [] b = [] := rfl
theorem zipX_cons (x : Int) (a : List Int) (y : Int) (b : List Int) : zipX (x :: a) (y :: b) = xorI x y :: zipX a b := by
  unfold zipX
  rw [List.length_cons, List.range_succ_eq_map, List.map_cons, List.map_map]
  rfl
theorem bits_cons {x : Int} {l : List Int} : bits (x :: l) ↔ (x = 0 ∨ x = 1) ∧ bits l := by
  constructor
  · intro h
    exact ⟨by simpa using h 0 (by simp), fun i hi => by simpa using h (i + 1) (by simpa using hi)⟩
  · rintro ⟨h1, h2⟩ i hi
    cases i with
    | zero => simpa using h1
    | succ i => simpa using h2 i (by simpa using hi)
theorem bits_append {a b : List Int} : bits (a ++ b) ↔ bits a ∧ bits b := by
  induction a with
  | nil => simp [bits]
  | cons x a ih => rw [List.cons_append, bits_cons, bits_cons, ih, and_assoc]
theorem zipX_bits : ∀ {a b : List Int}, bits a → bits b → b.length = a.length → bits (zipX a b)
  | [], _, _, _, _ => by rw [zipX_nil]; exact fun i hi => by simp at hi
  | x :: a, [], _, _, h => by simp at h
  | x :: a, y :: b, ha, hb, h => by
    rw [zipX_cons, bits_cons]
    exact ⟨xorI_bit (bits_cons.1 ha).1 (bits_cons.1 hb).1, zipX_bits (bits_cons.1 ha).2 (bits_cons.1 hb).2 (by simpa using h)⟩
theorem zipX_wt : ∀ {a b : List Int}, bits a → bits b → b.length = a.length → wt a ≤ wt (zipX a b) + wt b
  | [], _, _, _, _ => by simp [wt]
  | x :: a, [], _, _, h => by simp at h
  | x :: a, y :: b, ha, hb, h => by
    have ih := zipX_wt (bits_cons.1 ha).2 (bits_cons.1 hb).2 (by simpa using h)
    rw [zipX_cons, wt, wt, wt, xorI_bits (bits_cons.1 ha).1 (bits_cons.1 hb).1]
    rcases (bits_cons.1 ha).1 with rfl | rfl <;> rcases (bits_cons.1 hb).1 with rfl | rfl <;> simp <;> omega
theorem zipX_zero_left : ∀ {b : List Int}, bits b → zipX (List.replicate b.length 0) b = b
  | [], _ => rfl
  | y :: b, hb => by
    rw [List.length_cons, List.replicate_succ, zipX_cons, zipX_zero_left (bits_cons.1 hb).2, xorI_bits (by simp) (bits_cons.1 hb).1]
    rcases (bits_cons.1 hb).1 with rfl | rfl <;> rfl
theorem zipX_zero_right : ∀ {a : List Int}, bits a → zipX a (List.replicate a.length 0) = a
  | [], _ => rfl
  | y :: b, hb => by
    rw [List.length_cons, List.replicate_succ, zipX_cons, zipX_zero_right (bits_cons.1 hb).2, xorI_bits (bits_cons.1 hb).1 (by simp)]
    rcases (bits_cons.1 hb).1 with rfl | rfl <;> rfl
theorem zipX_self : ∀ {a : List Int}, bits a → zipX a a = List.replicate a.length 0
  | [], _ => rfl
  | y :: b, hb => by
    rw [List.length_cons, List.replicate_succ, zipX_cons, zipX_self (bits_cons.1 hb).2, xorI_bits (bits_cons.1 hb).1 (bits_cons.1 hb).1, if_pos rfl]
theorem zipX_append : ∀ {a b c d : List Int}, b.length = a.length → zipX (a ++ c) (b ++ d) = zipX a b ++ zipX c d
  | [], [], _, _, _ => rfl
  | x :: a, y :: b, c, d, h => by rw [List.cons_append, List.cons_append, zipX_cons, zipX_cons, List.cons_append, zipX_append (by simpa using h)]
theorem zipX_four : ∀ {a b c d : List Int}, bits a → bits b → bits c → bits d → b.length = a.length → c.length = a.length → d.length = a.length → zipX (zipX a b) (zipX c d) = zipX (zipX a c) (zipX b d)
  | [], [], [], [], _, _, _, _, _, _, _ => rfl
  | x :: a, y :: b, z :: c, w :: d, ha, hb, hc, hd, h1, h2, h3 => by
    have hx := (bits_cons.1 ha).1
    have hy := (bits_cons.1 hb).1
    have hz := (bits_cons.1 hc).1
    have hw := (bits_cons.1 hd).1
    rw [zipX_cons, zipX_cons, zipX_cons, zipX_cons, zipX_cons, zipX_cons, zipX_four (bits_cons.1 ha).2 (bits_cons.1 hb).2 (bits_cons.1 hc).2 (bits_cons.1 hd).2 (by simpa using h1) (by simpa using h2) (by simpa using h3)]
    congr 1
    rw [xorI_bits (xorI_bit hx hy) (xorI_bit hz hw), xorI_bits (xorI_bit hx hz) (xorI_bit hy hw), xorI_bits hx hy, xorI_bits hz hw, xorI_bits hx hz, xorI_bits hy hw]
    rcases hx with rfl | rfl <;> rcases hy with rfl | rfl <;> rcases hz with rfl | rfl <;> rcases hw with rfl | rfl <;> rfl

/-- A list in halves. -/
theorem halves {l : List Int} {m : Nat} (h : l.length = 2 ^ (m + 1)) : ∃ a b, l = a ++ b ∧ a.length = 2 ^ m ∧ b.length = 2 ^ m := by
  have hp : 2 ^ (m + 1) = 2 ^ m + 2 ^ m := by rw [Nat.pow_succ]; omega
  exact ⟨l.take (2 ^ m), l.drop (2 ^ m), (List.take_append_drop _ _).symm, by rw [List.length_take]; omega, by rw [List.length_drop]; omega⟩
theorem wordL_zipX : ∀ (m : Nat) {a b : List Int}, a.length = 2 ^ m → b.length = 2 ^ m → bits a → bits b → wordL m (zipX a b) = zipX (wordL m a) (wordL m b)
  | 0, a, b, _, _, _, _ => rfl
  | m + 1, a, b, ha, hb, ba, bb => by
    obtain ⟨a1, a2, rfl, ha1, ha2⟩ := halves ha
    obtain ⟨b1, b2, rfl, hb1, hb2⟩ := halves hb
    rw [bits_append] at ba bb
    rw [zipX_append (by omega), wordL_halves m _ _ (by rw [zipX_length, ha1]) (by rw [zipX_length, ha2]), wordL_halves m a1 a2 ha1 ha2, wordL_halves m b1 b2 hb1 hb2, wordL_zipX m ha1 hb1 ba.1 bb.1, wordL_zipX m ha2 hb2 ba.2 bb.2]
    rw [zipX_append (by rw [zipX_length, zipX_length, wordL_length, wordL_length]; omega), zipX_four (wordL_bits m ba.1) (wordL_bits m bb.1) (wordL_bits m ba.2) (wordL_bits m bb.2) (by rw [wordL_length, wordL_length]; omega) (by rw [wordL_length, wordL_length]; omega) (by rw [wordL_length, wordL_length]; omega)]
theorem rep_halves (m : Nat) : List.replicate (2 ^ (m + 1)) (0 : Int) = List.replicate (2 ^ m) 0 ++ List.replicate (2 ^ m) 0 := by
  rw [List.replicate_append_replicate]; congr 1; rw [Nat.pow_succ]; omega
theorem wordL_zero : ∀ (m : Nat), wordL m (List.replicate (2 ^ m) 0) = List.replicate (2 ^ m) 0
  | 0 => rfl
  | m + 1 => by
    rw [rep_halves, wordL_halves m _ _ (by simp) (by simp), wordL_zero m]
    have := zipX_self (bits_replicate (2 ^ m))
    rw [List.length_replicate] at this
    rw [this]
theorem getD_append (a b : List Int) (i : Nat) : (a ++ b).getD i 0 = if i < a.length then a.getD i 0 else b.getD (i - a.length) 0 := by
  simp only [List.getD_eq_getElem?_getD, List.getElem?_append]
  split <;> rfl
theorem all_zero {a : List Int} (h : ∀ i, i < a.length → a.getD i 0 = 0) : a = List.replicate a.length 0 := by
  refine ext_getD (by simp) fun j hj => ?_
  rw [h j hj, getD_eq (by simpa using hj)]; simp
/-- **The least weight.** -/
theorem least_weight : ∀ (m : Nat) {u : List Int}, u.length = 2 ^ m → bits u → (∃ i, i < 2 ^ m ∧ u.getD i 0 = 1) → ∃ i, i < 2 ^ m ∧ u.getD i 0 = 1 ∧ 2 ^ pcN i ≤ wt (wordL m u)
  | 0, u, hu, _, ⟨i, hi, h1⟩ => by
    obtain ⟨y, rfl⟩ := List.length_eq_one_iff.1 hu
    have hi0 : i = 0 := by simpa using hi
    subst hi0
    refine ⟨0, hi, h1, ?_⟩
    have : y = 1 := by simpa using h1
    subst this
    simp [wordL, wt, pcN]
  | m + 1, u, hu, hb, ⟨i, hi, h1⟩ => by
    obtain ⟨a, b, rfl, ha, hb'⟩ := halves hu
    rw [bits_append] at hb
    have hp : 2 ^ (m + 1) = 2 ^ m + 2 ^ m := by rw [Nat.pow_succ]; omega
    rw [wordL_halves m a b ha hb', wt_append]
    by_cases hz : ∃ j, j < 2 ^ m ∧ a.getD j 0 = 1
    · obtain ⟨j, hj, hj1, hw⟩ := least_weight m ha hb.1 hz
      refine ⟨j, by omega, by rw [getD_append, if_pos (by omega)]; exact hj1, Nat.le_trans hw ?_⟩
      exact zipX_wt (wordL_bits m hb.1) (wordL_bits m hb.2) (by rw [wordL_length, wordL_length]; omega)
    · have ha0 : a = List.replicate (2 ^ m) 0 := by
        rw [← ha]
        refine all_zero fun j hj => ?_
        rcases hb.1 j hj with h | h
        · exact h
        · exact absurd ⟨j, by omega, h⟩ hz
      have hbz : ∃ j, j < 2 ^ m ∧ b.getD j 0 = 1 := by
        rw [getD_append] at h1
        by_cases hia : i < a.length
        · rw [if_pos hia] at h1; exact absurd ⟨i, by omega, h1⟩ hz
        · rw [if_neg hia] at h1; exact ⟨i - a.length, by omega, h1⟩
      obtain ⟨j, hj, hj1, hw⟩ := least_weight m hb' hb.2 hbz
      refine ⟨2 ^ m + j, by omega, by rw [getD_append, if_neg (by omega), ha, Nat.add_sub_cancel_left]; exact hj1, ?_⟩
      have hz2 := zipX_zero_left (wordL_bits m hb.2)
      rw [wordL_length, hb'] at hz2
      rw [pcN_high m j hj, Nat.pow_succ, ha0, wordL_zero, hz2]
      omega
/-- The weight of a row. -/
theorem unit_weight : ∀ (m i : Nat), i < 2 ^ m → wt (wordL m ((List.replicate (2 ^ m) 0).set i 1)) = 2 ^ pcN i
  | 0, i, h => by
    have : i = 0 := by simpa using h
    subst this
    simp [wordL, wt, pcN]
  | m + 1, i, h => by
    have hp : 2 ^ (m + 1) = 2 ^ m + 2 ^ m := by rw [Nat.pow_succ]; omega
    have hbu : ∀ k, bits ((List.replicate (2 ^ m) (0 : Int)).set k 1) := fun k => bits_set (bits_replicate _) k (.inr rfl)
    rw [rep_halves]
    by_cases hi : i < 2 ^ m
    · rw [List.set_append_left _ _ (by simpa using hi), wordL_halves m _ _ (by simp) (by simp), wordL_zero, wt_append, wt_zero, Nat.add_zero]
      have := zipX_zero_right (wordL_bits m (hbu i))
      rw [wordL_length, List.length_set, List.length_replicate] at this
      rw [this, unit_weight m i hi]
    · rw [List.set_append_right _ _ (by simpa using hi), List.length_replicate, wordL_halves m _ _ (by simp) (by simp), wordL_zero, wt_append]
      have := zipX_zero_left (wordL_bits m (hbu (i - 2 ^ m)))
      rw [wordL_length, List.length_set, List.length_replicate] at this
      rw [this, unit_weight m (i - 2 ^ m) (by omega)]
      have hpc := pcN_high m (i - 2 ^ m) (by omega)
      rw [show 2 ^ m + (i - 2 ^ m) = i by omega] at hpc
      rw [hpc, Nat.pow_succ]; omega
end Go.Sh

/-
  How many ones a number has; the distance of a polar code.
-/
namespace Go.Sh
open Go.PW

def andUc (a b : Int) : Int := (((BitVec.ofInt 64 a &&& BitVec.ofInt 64 b).toNat : Nat) : Int) % 18446744073709551616
theorem andU_c (a b : Int) : andU a b = andUc a b := wu64_eq _
def andIc (a b : Int) : Int := ((((BitVec.ofInt 64 a &&& BitVec.ofInt 64 b).toNat : Nat) : Int) + 9223372036854775808) % 18446744073709551616 - 9223372036854775808
theorem andI_c (a b : Int) : andI a b = andIc a b := w64_eq _
def wuC (n : Int) : Int := n % 18446744073709551616
theorem wu64_c (n : Int) : wu64 n = wuC n := wu64_eq n
def wC (n : Int) : Int := (n + 9223372036854775808) % 18446744073709551616 - 9223372036854775808
theorem w64_c (n : Int) : w64 n = wC n := w64_eq n
def onesA (x : Int) : Int := wuC (andUc (shrI x 1) 6148914691236517205 + andUc x 6148914691236517205)
def onesB (x : Int) : Int := wuC (andUc (shrI x 2) 3689348814741910323 + andUc x 3689348814741910323)
def onesD (x : Int) : Int := andUc (wuC (shrI x 4 + x)) 1085102592571150095
def onesE (x : Int) : Int := wuC (x + shrI x 8)
def onesF (x : Int) : Int := wuC (x + shrI x 16)
def onesG (x : Int) : Int := wuC (x + shrI x 32)
def onesC (x : Int) : Int := andIc (wC (onesG (onesF (onesE (onesD (onesB (onesA x))))))) 127
theorem ones_tab : ∀ k : Fin 64, onesC (k.val : Int) = (pcN k.val : Int) := by decide +kernel
theorem OnesCount64_eq (N : Nat) (x : Int) : math_bits_OnesCount64 N x = some (onesC x) := by
  unfold math_bits_OnesCount64
  simp only [andU_c, andI_c, wu64_c, w64_c]
  simp only [onesC, onesG, onesF, onesE, onesD, onesB, onesA]
theorem ones_eq {N k : Nat} (h : k < 64) : code_ones N (k : Int) = some (pcN k : Int) := by
  unfold code_ones math_bits_OnesCount
  rw [wu64_id (by omega), br_false, OnesCount64_eq, bnd_val, bnd_val, ones_tab ⟨k, h⟩]
theorem bestStep_ok (info : List Int) (k b : Nat) : ∃ b' : Nat, (if pcN (info.getD k 0).toNat < pcN (info.getD b 0).toNat then (k : Int) else b) = b' := by
  split
  · exact ⟨k, rfl⟩
  · exact ⟨b, rfl⟩
theorem DistanceOf_eq {N q : Nat} (hq : q ≤ 6) (info : List Int) (hl : info.length < 1000000) (hN : info.length < N) (hN2 : 64 < N) (h0 : polarErr q info = 0) (hne : info ≠ []) (hin : ∀ x ∈ info, 0 ≤ x ∧ x < ((2 ^ q : Nat) : Int)) :
    ∃ b : Nat, b < info.length ∧ (∀ j, j < info.length → pcN (info.getD b 0).toNat ≤ pcN (info.getD j 0).toNat) ∧
      code_DistanceOf N q info = some (((2 ^ pcN (info.getD b 0).toNat : Nat) : Int), (List.replicate info.length 0).set b 1, 0) := by
  have h64 := pow_le6 hq
  have hpos : 0 < info.length := List.length_pos_iff.2 hne
  have hget : ∀ k, k < info.length → ∃ n : Nat, n < 64 ∧ info.getD k 0 = n := fun k hk => by
    have hm : info.getD k 0 ∈ info := by rw [getD_eq hk]; exact List.getElem_mem hk
    have := hin _ hm
    exact ⟨(info.getD k 0).toNat, by omega, by omega⟩
  unfold code_DistanceOf
  rw [CheckPolar_eq _ info (by omega) hN (by omega), bnd_val, h0, br_00]
  have h := rds_itR (N := N) info.length (fun k (s : Int) => if pcN (info.getD k 0).toNat < pcN (info.getD s.toNat 0).toNat then (k : Int) else s)
    (fun k s => ∃ b : Nat, s = b ∧ b < info.length ∧ ∀ j, j < k → pcN (info.getD b 0).toNat ≤ pcN (info.getD j 0).toNat) (code_DistanceOf.b1 N info fun best =>
      chk (0 ≤ (info.length : Int) ∧ (info.length : Int) ≤ (1000000000 : Int)) <|
      chk (0 ≤ best ∧ best < ((List.replicate (info.length : Int).toNat (0 : Int)).length : Int)) <|
      chk (0 ≤ best ∧ best < (info.length : Int)) <|
      bnd (code_ones N (info.getD best.toNat 0)) fun x4 =>
      chk (0 ≤ x4) <|
      some (shlI (1 : Int) x4, ((List.replicate (info.length : Int).toNat (0 : Int)).set best.toNat (1 : Int)), (0 : Int))) (fun best =>
      chk (0 ≤ (info.length : Int) ∧ (info.length : Int) ≤ (1000000000 : Int)) <|
      chk (0 ≤ best ∧ best < ((List.replicate (info.length : Int).toNat (0 : Int)).length : Int)) <|
      chk (0 ≤ best ∧ best < (info.length : Int)) <|
      bnd (code_ones N (info.getD best.toNat 0)) fun x4 =>
      chk (0 ≤ x4) <|
      some (shlI (1 : Int) x4, ((List.replicate (info.length : Int).toNat (0 : Int)).set best.toNat (1 : Int)), (0 : Int)))
    (s := 0) ⟨0, rfl, hpos, fun j hj => absurd hj (Nat.not_lt_zero _)⟩ (fun k s hk hI => ?_) (fun k s rec hk hI => ?_) (fun s rec hI => ?_) hN
  · obtain ⟨h1, b, hb, hbl, hmin⟩ := h
    refine ⟨b, hbl, hmin, h1.trans ?_⟩
    rw [hb]
    obtain ⟨n, hn, he⟩ := hget b hbl
    have hp : pcN n ≤ 6 := by
      have : ∀ k : Fin 64, pcN k.val ≤ 6 := by decide +kernel
      exact this ⟨n, hn⟩
    rw [chk_pos (by omega), chk_pos (by simp; omega), chk_pos (by omega), Int.toNat_natCast, he, ones_eq hn, bnd_val, chk_pos (by omega), shl1_pow (by omega), Int.toNat_natCast, Int.toNat_natCast]
  · obtain ⟨b, rfl, hbl, hmin⟩ := hI
    simp only [Int.toNat_natCast]
    by_cases hlt : pcN (info.getD k 0).toNat < pcN (info.getD b 0).toNat
    · rw [if_pos hlt]
      refine ⟨k, rfl, hk, fun j hj => ?_⟩
      rcases Nat.lt_succ_iff_lt_or_eq.1 hj with hj | rfl
      · have := hmin j hj; omega
      · omega
    · rw [if_neg hlt]
      refine ⟨b, rfl, hbl, fun j hj => ?_⟩
      rcases Nat.lt_succ_iff_lt_or_eq.1 hj with hj | rfl
      · exact hmin j hj
      · omega
  · obtain ⟨b, rfl, hbl, hmin⟩ := hI
    show br (decide ((k : Int) < (info.length : Int))) _ _ = _
    obtain ⟨n, hn, he⟩ := hget b hbl
    obtain ⟨m, hm, hf⟩ := hget k hk
    rw [br_pos (by simpa using hk), chk_pos (by omega), Int.toNat_natCast, hf, ones_eq hm, bnd_val, chk_pos (by omega), Int.toNat_natCast, he, ones_eq hn, bnd_val, w64_succ (by omega)]
    simp only [Int.toNat_natCast, hf, he]
    by_cases hlt : pcN m < pcN n
    · rw [br_pos (by rw [decide_eq_true_iff]; omega), if_pos hlt]
    · rw [br_neg (by rw [decide_eq_false_iff_not]; omega), if_neg hlt]
  · show br (decide ((info.length : Int) < (info.length : Int))) _ _ = _
    rw [br_neg (by simp)]
theorem wt_take (l : List Int) (k : Nat) (h : k < l.length) : wt (l.take (k + 1)) = wt (l.take k) + if l.getD k 0 = 1 then 1 else 0 := by
  rw [List.take_succ_eq_append_getElem h, wt_append, getD_eq h]; rfl
theorem wt_le (l : List Int) : wt l ≤ l.length := by
  induction l with
  | nil => exact Nat.le_refl _
  | cons x l ih => rw [wt, List.length_cons]; split <;> omega
theorem lawOnes_eq {N : Nat} (l : List Int) (hb : bits l) (hl : l.length < 1000000) (hN : l.length < N) : law02_ones N l = some (wt l : Int) := by
  unfold law02_ones jn
  have h := rds_itR (N := N) l.length (fun k (s : Int) => s + if l.getD k 0 = 1 then 1 else 0) (fun k s => s = (wt (l.take k) : Int)) (law02_ones.b1 N l fun n => some n) (fun n => some n) (s := 0) (by simp [wt]) (fun k s hk hI => ?_) (fun k s rec hk hI => ?_) (fun s rec hI => ?_) hN
  · refine h.1.trans ?_
    rw [h.2, List.take_length]
  · rw [hI, wt_take l k hk]; split <;> simp
  · show br (decide ((k : Int) < (l.length : Int))) _ _ = _
    have hbk := bits_getD hb k
    rw [br_pos (by simpa using hk), chk_pos (by omega), Int.toNat_natCast, Mod_eq _ _ _ (by omega) (by decide), bnd_val, w64_succ (by omega)]
    have hw := wt_le (l.take k)
    rw [List.length_take] at hw
    have e : l.getD k 0 % 2 = if l.getD k 0 = 1 then 1 else 0 := by rcases hbk with h | h <;> rw [h] <;> rfl
    rw [e, w64_id (by rw [hI]; split <;> omega)]
  · show br (decide ((l.length : Int) < (l.length : Int))) _ _ = _
    rw [br_neg (by simp)]
theorem sum_bits {a b : Int} (ha : a = 0 ∨ a = 1) (hb : b = 0 ∨ b = 1) : (w64 (a + b)).tmod 2 = xorI a b := by
  rw [w64_id (by omega), xorI_bits ha hb]
  rcases ha with rfl | rfl <;> rcases hb with rfl | rfl <;> rfl
theorem Distance_b2_eq {N : Nat} (a b : List Int) (ha : bits a) (hb : bits b) (h : b.length = a.length) (hl : a.length < 1000000) (hN : a.length < N) (K : List Int → Option Bool) :
    rds (law02_CodeDistance.b2 N a b K) N (0, []) = K (zipX a b) := by
  refine rds_map a.length (fun i => xorI (a.getD i 0) (b.getD i 0)) _ K (fun k acc rec hk hac => ?_) (fun acc rec _ => ?_) hN
  · show br (decide ((k : Int) < (a.length : Int))) _ _ = _
    rw [br_pos (by simpa using hk), chk_pos (by omega), chk_pos (by omega), chk_pos (by simp; omega), w64_succ (by omega), Int.toNat_natCast, sum_bits (bits_getD ha k) (bits_getD hb k)]
  · show br (decide ((a.length : Int) < (a.length : Int))) _ _ = _
    rw [br_neg (by simp)]
theorem Distance_b1_eq {N : Nat} (a b : List Int) (ha : bits a) (hb : bits b) (h : b.length = a.length) (hl : a.length < 1000000) (hN : a.length < N) (K : Int × List Int → Option Bool) :
    rds (law02_CodeDistance.b1 N a b K) N (0, 0, []) = K ((wt (zipX a b) : Int), zipX a b) := by
  have hzl := zipX_length a b
  refine rds_spec (fun s : Int × Int × List Int => ∃ k : Nat, k ≤ a.length ∧ s = ((wt ((zipX a b).take k) : Int), (k : Int), (zipX a b).take k)) (fun s => a.length - s.2.1.toNat) (fun _ => K ((wt (zipX a b) : Int), zipX a b)) (fun rec s hI hrec => ?_) N (0, 0, []) ⟨0, Nat.zero_le _, by simp [wt]⟩ (by simp; omega)
  obtain ⟨k, hk, rfl⟩ := hI
  show br (decide ((k : Int) < (a.length : Int))) _ _ = _
  by_cases hkl : k < a.length
  · have hw := wt_le ((zipX a b).take k)
    rw [List.length_take] at hw
    have hx := xorI_bits (bits_getD ha k) (bits_getD hb k)
    have hwk := wt_take (zipX a b) k (by omega)
    rw [zipX_getD a b hkl] at hwk
    rw [br_pos (by simpa using hkl), chk_pos (by omega), chk_pos (by omega), chk_pos (by simp; omega), chk_pos (by omega), chk_pos (by omega), w64_succ (by omega), Int.toNat_natCast, sum_bits (bits_getD ha k) (bits_getD hb k)]
    have hs : w64 (((wt ((zipX a b).take k) : Nat) : Int) + xorI (a.getD k 0) (b.getD k 0)) = ((wt ((zipX a b).take (k + 1)) : Nat) : Int) := by
      rw [hwk, hx]
      by_cases he : a.getD k 0 = b.getD k 0
      · rw [if_pos he, w64_id (by omega)]; simp
      · rw [if_neg he, w64_id (by omega)]; simp
    rw [hs]
    refine hrec _ ⟨k + 1, hkl, ?_⟩ (by simp only [Int.toNat_natCast]; omega)
    rw [List.take_succ_eq_append_getElem (by omega), ← zipX_getD a b hkl, getD_eq (by omega)]
  · have : k = a.length := by omega
    subst this
    rw [br_neg (by simp), ← hzl, List.take_length]
end Go.Sh

/-
  SO FAR APART: the law's shallow function tells true.
-/
namespace Go.Sh
open Go.PW

theorem place_zipX : ∀ (is x y b c : List Int), x.length = is.length → y.length = is.length → b.length = c.length → place is (zipX x y) (zipX b c) = zipX (place is x b) (place is y c)
  | [], x, y, b, c, hx, hy, _ => by
    cases x with
    | nil => rfl
    | cons _ _ => simp at hx
  | i :: is, x :: xs, y :: ys, b, c, hx, hy, hbc => by
    rw [zipX_cons, place, place, place, ← place_zipX is xs ys (b.set i.toNat x) (c.set i.toNat y) (by simpa using hx) (by simpa using hy) (by simpa using hbc)]
    congr 1
    refine ext_getD (by simp [zipX_length]) fun j hj => ?_
    rw [List.length_set, zipX_length] at hj
    rw [zipX_getD _ _ (by simpa using hj)]
    by_cases h : i.toNat = j
    · subst h
      have h2 : i.toNat < c.length := by omega
      simp [List.getD_eq_getElem?_getD, zipX_length, hj, h2]
    · have e := zipX_getD b c hj
      simp only [List.getD_eq_getElem?_getD] at e ⊢
      simp only [List.getElem?_set, h, if_false]
      exact e
theorem place_getD_in (is ys b : List Int) (hp : is.Pairwise (· < ·)) (hin : ∀ x ∈ is, 0 ≤ x ∧ x < (b.length : Int)) (hl : ys.length = is.length) (k : Nat) (hk : k < is.length) : (place is ys b).getD (is.getD k 0).toNat 0 = ys.getD k 0 := by
  have h := place_map is ys b hp hin hl
  have h2 := congrArg (fun l => l.getD k 0) h
  simp only [List.getD_eq_getElem?_getD, List.getElem?_map] at h2
  rw [List.getElem?_eq_getElem hk] at h2
  simp only [Option.map_some, Option.getD_some] at h2
  rw [getD_eq hk]
  simpa [List.getD_eq_getElem?_getD] using h2
theorem place_unit {q : Nat} (is : List Int) (hp : is.Pairwise (· < ·)) (hin : ∀ x ∈ is, 0 ≤ x ∧ x < ((2 ^ q : Nat) : Int)) (b : Nat) (hb : b < is.length) :
    place is ((List.replicate is.length 0).set b 1) (List.replicate (2 ^ q) 0) = (List.replicate (2 ^ q) 0).set (is.getD b 0).toNat 1 := by
  refine ext_getD (by rw [place_length, List.length_set]) fun j hj => ?_
  rw [place_length, List.length_replicate] at hj
  have hin' : ∀ x ∈ is, 0 ≤ x ∧ x < ((List.replicate (2 ^ q) (0 : Int)).length : Int) := fun x hx => by rw [List.length_replicate]; exact hin x hx
  by_cases hm : ((j : Nat) : Int) ∈ is
  · obtain ⟨k, hk, he⟩ := List.mem_iff_getElem.1 hm
    have hg := place_getD_in is ((List.replicate is.length 0).set b 1) _ hp hin' (by simp) k hk
    rw [getD_eq hk, he, Int.toNat_natCast] at hg
    rw [hg]
    by_cases hkb : b = k
    · subst hkb
      rw [getD_eq hk, he, Int.toNat_natCast]
      simp [List.getD_eq_getElem?_getD, hk, hj]
    · have hne : (is.getD b 0).toNat ≠ j := fun hc => by
        have hbm : is.getD b 0 ∈ is := by rw [getD_eq hb]; exact List.getElem_mem hb
        have h0 := (hin _ hbm).1
        have h1 : is.getD b 0 = is.getD k 0 := by rw [getD_eq hk, he]; omega
        have hr := rising_of hp
        rcases Nat.lt_or_gt_of_ne hkb with h | h
        · have := hr b k h hk; omega
        · have := hr k b h hb; omega
      generalize (is.getD b 0).toNat = p at hne ⊢
      simp [List.getD_eq_getElem?_getD, List.getElem?_set, hkb, hne, hk, hj]
  · rw [place_getD_out is _ _ j (fun x hx => (hin x hx).1) hm]
    have hne : (is.getD b 0).toNat ≠ j := fun hc => by
      have hbm : is.getD b 0 ∈ is := by rw [getD_eq hb]; exact List.getElem_mem hb
      have h0 := (hin _ hbm).1
      exact hm (by rw [← hc, Int.toNat_of_nonneg h0]; exact hbm)
    generalize (is.getD b 0).toNat = p at hne ⊢
    simp [List.getD_eq_getElem?_getD, List.getElem?_set, hne]
theorem zipX_eq_zero : ∀ {a b : List Int}, bits a → bits b → b.length = a.length → (∀ i, i < a.length → (zipX a b).getD i 0 = 0) → a = b
  | [], [], _, _, _, _ => rfl
  | x :: a, y :: b, ha, hb, h, hz => by
    have h0 := hz 0 (by simp)
    rw [zipX_cons, List.getD_cons_zero, xorI_bits (bits_cons.1 ha).1 (bits_cons.1 hb).1] at h0
    have hxy : x = y := by
      by_cases he : x = y
      · exact he
      · rw [if_neg he] at h0; exact absurd h0 (by decide)
    rw [hxy, zipX_eq_zero (bits_cons.1 ha).2 (bits_cons.1 hb).2 (by simpa using h) fun i hi => ?_]
    have := hz (i + 1) (by simpa using hi)
    rw [zipX_cons, List.getD_cons_succ] at this
    exact this
theorem Encode_ok {N q : Nat} (hq : q ≤ 6) (info l : List Int) (hi : info.length < 1000000) (hN : info.length < N) (hN2 : 64 < N) (h2 : polarErr q info = 0) (hin : ∀ x ∈ info, 0 ≤ x ∧ x < ((2 ^ q : Nat) : Int)) (hl : l.length = info.length) (hb : listErr 200 isBitB 15 l = 0) :
    code_Encode N q info l = some (wordL q (place info l (List.replicate (2 ^ q) 0)), 0) := by
  have hEnc := Encode_eq (N := N) q info l hi (by omega) hN (by omega) hN2
  rw [h2, hb, if_pos hl] at hEnc
  rw [encode_eq hq info l hl hin (by omega) hN hN2] at hEnc
  exact hEnc
end Go.Sh

/-
  SO FAR APART: the law's shallow function tells true.
-/
namespace Go.Sh
open Go.PW

theorem far_apart {q : Nat} (info a b : List Int) (hp : info.Pairwise (· < ·)) (hin : ∀ x ∈ info, 0 ≤ x ∧ x < ((2 ^ q : Nat) : Int)) (ha : bits a) (hb : bits b) (hal : a.length = info.length) (hbl : b.length = a.length) (best : Nat)
    (hmin : ∀ j, j < info.length → pcN (info.getD best 0).toNat ≤ pcN (info.getD j 0).toNat) (hab : a ≠ b) :
    2 ^ pcN (info.getD best 0).toNat ≤ wt (wordL q (place info (zipX a b) (List.replicate (2 ^ q) 0))) := by
  have hz := zipX_bits ha hb hbl
  have hzl := zipX_length a b
  have hin' : ∀ x ∈ info, 0 ≤ x ∧ x < ((List.replicate (2 ^ q) (0 : Int)).length : Int) := fun x hx => by rw [List.length_replicate]; exact hin x hx
  have hex : ∃ k, k < a.length ∧ (zipX a b).getD k 0 = 1 := by
    refine Classical.byContradiction fun hn => hab (zipX_eq_zero ha hb hbl fun i hi => ?_)
    rcases hz i (by omega) with h | h
    · exact h
    · exact absurd ⟨i, hi, h⟩ hn
  obtain ⟨k, hk, h1⟩ := hex
  have hu : (place info (zipX a b) (List.replicate (2 ^ q) 0)).length = 2 ^ q := by rw [place_length, List.length_replicate]
  have hub := place_bits info (zipX a b) (List.replicate (2 ^ q) 0) hz (bits_replicate _)
  have hkm : info.getD k 0 ∈ info := by rw [getD_eq (by omega)]; exact List.getElem_mem _
  have hg := place_getD_in info (zipX a b) _ hp hin' (by omega) k (by omega)
  obtain ⟨i, hi, hi1, hw⟩ := least_weight q hu hub ⟨(info.getD k 0).toNat, by have := hin _ hkm; omega, hg.trans h1⟩
  have him : ((i : Nat) : Int) ∈ info := by
    refine Classical.byContradiction fun hn => ?_
    rw [place_getD_out info _ _ i (fun x hx => (hin x hx).1) hn, getD_eq (by simpa using hi)] at hi1
    simp at hi1
  obtain ⟨j, hj, he⟩ := List.mem_iff_getElem.1 him
  have := hmin j hj
  rw [getD_eq (l := info) (k := j) hj, he, Int.toNat_natCast] at this
  exact Nat.le_trans (Nat.pow_le_pow_right (by decide) this) hw
theorem law_CodeDistance {N : Nat} (p : Int) (info a b : List Int) (hN : 1000 < N) : law02_CodeDistance N p info a b = some true := by
  unfold law02_CodeDistance
  rw [awake_eq (by omega), bnd_val, br_nt]
  by_cases h1 : (info.length : Int) ≤ 66
  case neg => simp [law02_small, h1]
  rw [law02_small, bnd_val, refCheckPolar_eq p info (by omega) (by omega) (by omega), decide_eq_true h1]
  simp only [Bool.not_true, Bool.not_false, grd_true, bnd_val, Bool.false_or]
  by_cases h2 : polarErr p info = 0
  case neg =>
    have : (polarErr p info != 0) = true := by rw [bne_iff_ne]; exact h2
    simp [this]
  obtain ⟨q, hq, rfl, hne, hin, hpw⟩ := polarErr_zero h2
  rw [h2]
  by_cases h3 : a.length = info.length
  case neg =>
    have : ((a.length : Int) != (info.length : Int)) = true := by rw [bne_iff_ne]; omega
    simp [this]
  have e3 : ((a.length : Int) != (info.length : Int)) = false := by rw [h3]; simp
  by_cases h3' : b.length = a.length
  case neg =>
    have : ((b.length : Int) != (a.length : Int)) = true := by rw [bne_iff_ne]; omega
    simp [this]
  have e3' : ((b.length : Int) != (a.length : Int)) = false := by rw [h3']; simp
  rw [e3, e3', refBitsErr_eq a (by omega) (by omega), refBitsErr_eq b (by omega) (by omega)]
  simp only [Bool.or_false, bne_self_eq_false, Bool.not_false, grd_true, bnd_val]
  by_cases h4 : listErr 200 isBitB 15 a = 0
  case neg =>
    have : (listErr 200 isBitB 15 a != 0) = true := by rw [bne_iff_ne]; exact h4
    simp [this]
  rw [h4]
  simp only [Bool.or_false, Bool.false_or, bne_self_eq_false, Bool.not_false, grd_true, bnd_val]
  by_cases h5 : listErr 200 isBitB 15 b = 0
  case neg =>
    have : (listErr 200 isBitB 15 b != 0) = true := by rw [bne_iff_ne]; exact h5
    simp [this]
  rw [h5, br_00]
  obtain ⟨hal0, hal1, hall⟩ := listErr_zero (by decide) h4
  obtain ⟨_, _, hbll⟩ := listErr_zero (by decide) h5
  have ha := bits_of_all hall
  have hb := bits_of_all hbll
  have h64 := pow_le6 hq
  obtain ⟨best, hbest, hmin, hD⟩ := DistanceOf_eq hq info (by omega) (N := N) (by omega) (by omega) h2 hne hin
  have hEa := Encode_ok (N := N) hq info a (by omega) (by omega) (by omega) h2 hin h3 h4
  have hEb := Encode_ok (N := N) hq info b (by omega) (by omega) (by omega) h2 hin (by omega) h5
  have hub : bits ((List.replicate info.length (0 : Int)).set best 1) := bits_set (bits_replicate _) best (.inr rfl)
  have hE1 := Encode_ok (N := N) hq info ((List.replicate info.length 0).set best 1) (by omega) (by omega) (by omega) h2 hin (by simp) (listErr_ok (by simp; omega) (by simp; omega) (all_of_bits hub))
  have hzb := zipX_bits ha hb h3'
  have hE2 := Encode_ok (N := N) hq info (zipX a b) (by omega) (by omega) (by omega) h2 hin (by rw [zipX_length]; exact h3) (listErr_ok (by rw [zipX_length]; exact hal0) (by rw [zipX_length]; exact hal1) (all_of_bits hzb))
  have hfar := far_apart info a b hpw hin ha hb h3 h3' best hmin
  have hsum : wordL q (place info (zipX a b) (List.replicate (2 ^ q) 0)) = zipX (wordL q (place info a (List.replicate (2 ^ q) 0))) (wordL q (place info b (List.replicate (2 ^ q) 0))) := by
    have hz := zipX_self (bits_replicate (2 ^ q))
    rw [List.length_replicate] at hz
    rw [← wordL_zipX q (by rw [place_length, List.length_replicate]) (by rw [place_length, List.length_replicate]) (place_bits info a _ ha (bits_replicate _)) (place_bits info b _ hb (bits_replicate _)), ← place_zipX info a b _ _ h3 (by omega) rfl, hz]
  rw [place_unit info hpw hin best hbest] at hE1
  have hbm : info.getD best 0 ∈ info := by rw [getD_eq hbest]; exact List.getElem_mem hbest
  have hw1 := unit_weight q (info.getD best 0).toNat (by have := hin _ hbm; omega)
  have hwb1 := wordL_bits q (bits_set (bits_replicate (2 ^ q)) (info.getD best 0).toNat (.inr (rfl : (1 : Int) = 1)))
  have hwl1 : (wordL q ((List.replicate (2 ^ q) (0 : Int)).set (info.getD best 0).toNat 1)).length = 2 ^ q := by rw [wordL_length]; simp
  have hba := wordL_bits q (place_bits info a (List.replicate (2 ^ q) 0) ha (bits_replicate _))
  have hbb := wordL_bits q (place_bits info b (List.replicate (2 ^ q) 0) hb (bits_replicate _))
  have hla : (wordL q (place info a (List.replicate (2 ^ q) 0))).length = 2 ^ q := by rw [wordL_length, place_length, List.length_replicate]
  have hlb : (wordL q (place info b (List.replicate (2 ^ q) 0))).length = 2 ^ q := by rw [wordL_length, place_length, List.length_replicate]
  have hsame : a = b → wordL q (place info a (List.replicate (2 ^ q) 0)) = wordL q (place info b (List.replicate (2 ^ q) 0)) := fun h => by rw [h]
  rw [hsum] at hfar hE2
  generalize wordL q (place info a (List.replicate (2 ^ q) 0)) = U at *
  generalize wordL q (place info b (List.replicate (2 ^ q) 0)) = V at *
  generalize wordL q ((List.replicate (2 ^ q) (0 : Int)).set (info.getD best 0).toNat 1) = Wd at *
  generalize pcN (info.getD best 0).toNat = d at *
  rw [CopyPolar_eq _ _ _ (by omega), bnd_val, CopyInts_eq _ a (by omega), CopyInts_eq _ b (by omega)]
  simp only [bnd_val]
  rw [hD]
  simp only [bnd_val]
  rw [hEa]
  simp only [bnd_val]
  rw [hEb]
  simp only [bnd_val, Length_eq info (show q ≤ 40 by omega) (show q < N by omega), hla, hlb, bne_self_eq_false, Bool.false_or, Bool.or_false, Bool.not_false, grd_true]
  rw [AreBits_eq U (by omega) (by omega), AreBits_eq V (by omega) (by omega), all_of_bits hba, all_of_bits hbb]
  have eL : ((((List.replicate info.length (0 : Int)).set best 1).length : Int) != (a.length : Int)) = false := by simp [h3]
  simp only [bnd_val, eL, Bool.not_true, Bool.not_false, Bool.false_or, Bool.or_false, grd_true]
  rw [AreBits_eq _ (by simp; omega) (by simp; omega), all_of_bits hub]
  simp only [bnd_val, Bool.not_true, br_false]
  rw [CopyInts_eq _ _ (by simp; omega), bnd_val, hE1]
  simp only [bnd_val, bne_self_eq_false, Bool.false_or, Bool.not_false, grd_true]
  rw [lawOnes_eq Wd hwb1 (by omega) (by omega), bnd_val, hw1]
  have hpos := Nat.two_pow_pos d
  generalize 2 ^ d = D at *
  rw [br_neg (by simp; omega)]
  show rds (law02_CodeDistance.b1 N U V _) N (0, 0, []) = _
  rw [Distance_b1_eq U V hba hbb (by omega) (by omega) (by omega)]
  show rds (law02_CodeDistance.b2 N a b _) N (0, []) = _
  rw [Distance_b2_eq a b ha hb h3' (by omega) (by omega), hE2]
  simp only [bnd_val, beq_self_eq_true, grd_true]
  rw [Ints_eq _ _ (by rw [zipX_length]; omega) (by rw [zipX_length]; omega), Ints_eq a b (by omega) (by omega)]
  simp only [decide_true, bnd_val, Bool.true_and, grd_true]
  by_cases hab : a = b
  · have hUV := hsame hab
    subst hUV
    have : wt (zipX U U) = 0 := by rw [zipX_self hba, wt_zero]
    simp [hab, this]
  · have := hfar hab
    have h2d : ((D : Nat) : Int) ≤ ((wt (zipX U V) : Nat) : Int) := Int.ofNat_le.2 this
    have e : decide ((wt (zipX U V) : Int) ≥ ((D : Nat) : Int)) = true := decide_eq_true h2d
    rw [e]
    simp [hab]
end Go.Sh

/-
  Parity-check codes: what the shallow functions come to.
-/
namespace Go.Sh
open Go.PW

/-! ### Rows -/
def lastFrom : Int → List Int → Int
  | b, [] => b
  | _, x :: l => lastFrom x l
def rowE (check b : Int) (l : List Int) : Int := if placesErr check b l ≠ 0 then placesErr check b l else if lastFrom b l = check then 0 else 23
def rowErrOf (row : List Int) (check : Int) : Int := if row.length < 2 then 10 else if 8 < row.length then 8 else rowE check (-1) row
theorem lastFrom_drop (b : Int) (l : List Int) (k : Nat) (h : k < l.length) : lastFrom b (l.drop k) = lastFrom (l.getD k 0) (l.drop (k + 1)) := by
  rw [List.drop_eq_getElem_cons h, lastFrom]; simp [List.getD_eq_getElem?_getD, h]
theorem rowErr_eq {N : Nat} (row : List Int) (check : Int) (hl : row.length < 1000000) (hN : row.length < N) (hN3 : 3 < N) : code_rowErr N row check = some (rowErrOf row check) := by
  unfold code_rowErr
  simp only [unless_eq, bnd_val]
  rw [first_eq _ (by simp) (by simp; omega), bnd_val]
  unfold rowErrOf
  by_cases h2 : row.length < 2
  · have e1 : decide ((row.length : Int) ≥ 2) = false := by simp; omega
    rw [if_pos h2, e1]; rfl
  have e1 : decide ((row.length : Int) ≥ 2) = true := by simp; omega
  rw [if_neg h2, e1]
  by_cases h8 : 8 < row.length
  · have e2 : decide ((row.length : Int) ≤ 8) = false := by simp; omega
    rw [if_pos h8, e2]; rfl
  have e2 : decide ((row.length : Int) ≤ 8) = true := by simp; omega
  rw [if_neg h8, e2]
  show rds (code_rowErr.b1 N row check fun before => some (if (before == check) = true then 0 else 23)) N (-1, 0) = _
  refine (rds_upR row.length _ (fun k b => some (rowE check b (row.drop k))) (fun k b rec hk hr => ?_) (fun b rec => ?_) hN (-1)).trans ?_
  · show br (decide ((k : Int) < (row.length : Int))) _ _ = _
    rw [br_pos (by simpa using hk), chk_pos (by omega)]
    simp only [within_eq, unless_eq, bnd_val, Int.toNat_natCast]
    rw [first_eq _ (by simp) (by simp; omega), bnd_val, w64_succ (by omega)]
    unfold rowE
    rw [placesErr_drop _ _ _ _ hk, lastFrom_drop _ _ _ hk]
    by_cases h1 : 0 ≤ row.getD k 0 ∧ row.getD k 0 ≤ check
    · have hb : (decide (0 ≤ row.getD k 0) && decide (row.getD k 0 ≤ check)) = true := by simp; exact h1
      rw [hb, if_neg (show ¬¬(0 ≤ row.getD k 0 ∧ row.getD k 0 ≤ check) from fun h => h h1)]
      by_cases h9 : row.getD k 0 ≤ b
      · have hc : decide (row.getD k 0 > b) = false := decide_eq_false (by omega)
        rw [hc, if_pos h9]; rfl
      · have hc : decide (row.getD k 0 > b) = true := decide_eq_true (by omega)
        rw [hc, if_neg h9]
        have hr' := hr (row.getD k 0)
        unfold rowE at hr'
        exact hr'
    · have hb : (decide (0 ≤ row.getD k 0) && decide (row.getD k 0 ≤ check)) = false := by
        simp only [Bool.and_eq_false_iff, decide_eq_false_iff_not]; omega
      rw [hb, if_pos h1]; rfl
  · show br (decide ((row.length : Int) < (row.length : Int))) _ _ = _
    rw [br_neg (by simp)]
    simp [rowE, placesErr, lastFrom]
  · simp
/-- What is wrong with the rows from one on. -/
def parFrom (info : Int) : Nat → List (List Int) → Int × Int
  | _, [] => (0, 0)
  | k, r :: rs => if rowErrOf r (info + k) ≠ 0 then ((k : Int), rowErrOf r (info + k)) else parFrom info (k + 1) rs
def parityOf (info : Int) (rows : List (List Int)) : Int × Int :=
  if ¬(1 ≤ info ∧ info ≤ 40) then (0, 2) else if rows.length = 0 then (0, 10) else if 20 < rows.length then (0, 8) else parFrom info 0 rows
theorem parFrom_drop (info : Int) (rows : List (List Int)) (k : Nat) (h : k < rows.length) : parFrom info k (rows.drop k) = if rowErrOf (rows.getD k default) (info + k) ≠ 0 then ((k : Int), rowErrOf (rows.getD k default) (info + k)) else parFrom info (k + 1) (rows.drop (k + 1)) := by
  rw [List.drop_eq_getElem_cons h, parFrom]; simp [List.getD_eq_getElem?_getD, h]
def shortRows (rows : List (List Int)) (B : Nat) : Prop := ∀ r ∈ rows, r.length ≤ B
theorem getD_mem {α : Type} {l : List α} {k : Nat} {d : α} (h : k < l.length) : l.getD k d ∈ l := by
  simp [List.getD_eq_getElem?_getD, h]
theorem CheckParity_eq {N : Nat} (info : Int) (rows : List (List Int)) (hs : shortRows rows 100) (hl : rows.length < 1000000) (hN : rows.length < N) (hN2 : 100 < N) : code_CheckParity N info rows = some (parityOf info rows) := by
  unfold code_CheckParity
  simp only [within_eq, unless_eq, bnd_val]
  rw [first_eq _ (by simp) (by simp; omega), bnd_val]
  unfold parityOf
  by_cases h1 : 1 ≤ info ∧ info ≤ 40
  case neg =>
    have hb : (decide (1 ≤ info) && decide (info ≤ 40)) = false := by rw [Bool.and_eq_false_iff]; simp; omega
    rw [hb, if_pos h1]; rfl
  have hb : (decide (1 ≤ info) && decide (info ≤ 40)) = true := by simp; exact h1
  rw [hb, if_neg (show ¬¬(1 ≤ info ∧ info ≤ 40) from fun h => h h1)]
  by_cases h2 : rows.length = 0
  · have e : decide ((rows.length : Int) > 0) = false := by simp [h2]
    rw [e, if_pos h2]; rfl
  have e : decide ((rows.length : Int) > 0) = true := by simp; omega
  rw [e, if_neg h2]
  by_cases h3 : 20 < rows.length
  · have e2 : decide ((rows.length : Int) ≤ 20) = false := by simp; omega
    rw [e2, if_pos h3]; rfl
  have e2 : decide ((rows.length : Int) ≤ 20) = true := by simp; omega
  rw [e2, if_neg h3]
  show rds (code_CheckParity.b1 N info rows fun _ => some (0, 0)) N 0 = _
  refine (rds_up1 rows.length _ (fun k => some (parFrom info k (rows.drop k))) (fun k rec hk hr => ?_) (fun rec => ?_) hN).trans (by simp)
  · show br (decide ((k : Int) < (rows.length : Int))) _ _ = _
    rw [br_pos (by simpa using hk), chk_pos (by omega), Int.toNat_natCast, w64_id (n := info + k) (by omega), rowErr_eq _ _ (by have := hs _ (getD_mem (d := default) hk); omega) (by have := hs _ (getD_mem (d := default) hk); omega) (by omega), bnd_val, w64_succ (by omega), hr, parFrom_drop _ _ _ hk]
    by_cases h : rowErrOf (rows.getD k default) (info + k) = 0
    · rw [if_neg (by simpa using h), br_neg (by rw [h]; rfl)]
    · rw [if_pos h, br_pos (by rw [bne_iff_ne]; exact h)]
  · show br (decide ((rows.length : Int) < (rows.length : Int))) _ _ = _
    rw [br_neg (by simp)]; simp [parFrom]

/-- A row that is right. -/
structure RowOK (n : Int) (row : List Int) : Prop where
  len : 2 ≤ row.length ∧ row.length ≤ 8
  inr : ∀ x ∈ row, 0 ≤ x ∧ x ≤ n
  split : ∃ a, row = a ++ [n] ∧ ∀ x ∈ a, 0 ≤ x ∧ x < n
theorem lastFrom_split : ∀ (b : Int) (l : List Int), l ≠ [] → ∃ a, l = a ++ [lastFrom b l]
  | _, [], h => absurd rfl h
  | b, [x], _ => ⟨[], by simp [lastFrom]⟩
  | b, x :: y :: l, _ => by
    obtain ⟨a, ha⟩ := lastFrom_split x (y :: l) (by simp)
    refine ⟨x :: a, ?_⟩
    rw [lastFrom, List.cons_append, ← ha]
theorem rowOK_of {row : List Int} {n : Int} (h : rowErrOf row n = 0) : RowOK n row := by
  unfold rowErrOf at h
  by_cases h1 : row.length < 2
  · rw [if_pos h1] at h; exact absurd h (by decide)
  rw [if_neg h1] at h
  by_cases h2 : 8 < row.length
  · rw [if_pos h2] at h; exact absurd h (by decide)
  rw [if_neg h2] at h
  unfold rowE at h
  by_cases h3 : placesErr n (-1) row = 0
  · rw [if_neg (by simpa using h3)] at h
    by_cases h4 : lastFrom (-1) row = n
    · obtain ⟨p1, p2⟩ := placesErr_zero n row (-1) h3
      obtain ⟨a, ha⟩ := lastFrom_split (-1) row (by intro e; rw [e] at h1; simp at h1)
      rw [h4] at ha
      refine ⟨by omega, fun x hx => ⟨(p1 x hx).1, (p1 x hx).2.1⟩, a, ha, fun x hx => ?_⟩
      rw [ha] at p2
      have := (List.pairwise_append.1 p2).2.2 x hx n (by simp)
      exact ⟨(p1 x (by rw [ha]; simp [hx])).1, this⟩
    · rw [if_neg h4] at h; exact absurd h (by decide)
  · rw [if_pos h3] at h; exact absurd h h3
structure ParOK (info : Int) (rows : List (List Int)) : Prop where
  hinfo : 1 ≤ info ∧ info ≤ 40
  hlen : 1 ≤ rows.length ∧ rows.length ≤ 20
  hrow : ∀ k, k < rows.length → RowOK (info + k) (rows.getD k default)
theorem parFrom_ok (info : Int) : ∀ (rows : List (List Int)) (k : Nat), (parFrom info k rows).2 = 0 → ∀ j, j < rows.length → RowOK (info + (k + j : Nat)) (rows.getD j default)
  | [], _, _, j, hj => by simp at hj
  | r :: rs, k, h, j, hj => by
    rw [parFrom] at h
    by_cases h1 : rowErrOf r (info + k) = 0
    · rw [if_neg (by simpa using h1)] at h
      cases j with
      | zero => simpa using rowOK_of h1
      | succ j =>
        have := parFrom_ok info rs (k + 1) h j (by simpa using hj)
        rw [List.getD_cons_succ, show k + (j + 1) = k + 1 + j by omega]; exact this
    · rw [if_pos h1] at h; exact absurd h h1
theorem parOK_of {info : Int} {rows : List (List Int)} (h : (parityOf info rows).2 = 0) : ParOK info rows := by
  unfold parityOf at h
  by_cases h1 : 1 ≤ info ∧ info ≤ 40
  · rw [if_neg (show ¬¬(1 ≤ info ∧ info ≤ 40) from fun h => h h1)] at h
    by_cases h2 : rows.length = 0
    · rw [if_pos h2] at h; exact absurd h (by decide)
    rw [if_neg h2] at h
    by_cases h3 : 20 < rows.length
    · rw [if_pos h3] at h; exact absurd h (by decide)
    rw [if_neg h3] at h
    exact ⟨h1, by omega, fun k hk => by have := parFrom_ok info rows 0 h k hk; simpa using this⟩
  · rw [if_pos h1] at h; exact absurd h (by decide)

/-! ### Sums -/
def sumAt (word : List Int) : List Int → Int
  | [] => 0
  | x :: r => word.getD x.toNat 0 + sumAt word r
theorem sumAt_append (w : List Int) : ∀ a b : List Int, sumAt w (a ++ b) = sumAt w a + sumAt w b
  | [], b => by simp [sumAt]
  | x :: a, b => by rw [List.cons_append, sumAt, sumAt, sumAt_append w a b]; omega
theorem sumAt_le {w : List Int} (hw : bits w) : ∀ r : List Int, 0 ≤ sumAt w r ∧ sumAt w r ≤ r.length
  | [] => by simp [sumAt]
  | x :: r => by
    have h1 := sumAt_le hw r
    have h2 := bits_getD hw x.toNat
    rw [sumAt, List.length_cons]; omega
def oddB (word row : List Int) : Bool := (sumAt word row).tmod 2 == 1
def inW (word row : List Int) : Prop := ∀ x ∈ row, 0 ≤ x ∧ x < (word.length : Int)
theorem odd_step {w row : List Int} (hw : bits w) (hl : row.length < 1000000) (k : Nat) (hk : k < row.length) : w64 (sumAt w (row.take k) + w.getD (row.getD k 0).toNat 0) = sumAt w (row.take (k + 1)) := by
  have h1 := sumAt_le hw (row.take k)
  have h2 := bits_getD hw (row.getD k 0).toNat
  rw [List.length_take] at h1
  rw [List.take_succ_eq_append_getElem hk, sumAt_append, ← getD_eq hk]
  simp only [sumAt]
  rw [w64_id (by omega)]; omega
theorem odd_eq {N : Nat} (w row : List Int) (hw : bits w) (hin : inW w row) (hl : row.length < 1000000) (hN : row.length < N) : code_odd N w row = some (oddB w row) := by
  unfold code_odd jn
  have h := rds_itR (N := N) row.length (fun k (s : Int) => w64 (s + w.getD (row.getD k 0).toNat 0)) (fun k s => s = sumAt w (row.take k)) (code_odd.b1 N w row fun sum => some (sum.tmod 2 == 1)) (fun sum => some (sum.tmod 2 == 1)) (s := 0) (by simp [sumAt]) (fun k s hk hI => ?_) (fun k s rec hk hI => ?_) (fun s rec hI => ?_) hN
  · refine h.1.trans ?_
    rw [h.2, List.take_length]; rfl
  · rw [hI, odd_step hw hl k hk]
  · show br (decide ((k : Int) < (row.length : Int))) _ _ = _
    rw [br_pos (by simpa using hk), chk_pos (by omega), Int.toNat_natCast, chk_pos (hin _ (getD_mem hk)), w64_succ (by omega)]
  · show br (decide ((row.length : Int) < (row.length : Int))) _ _ = _
    rw [br_neg (by simp)]
theorem refodd_eq {N : Nat} (w row : List Int) (hw : bits w) (hin : inW w row) (hl : row.length < 1000000) (hN : row.length < N) : ref02_odd N row w = some (oddB w row) := by
  unfold ref02_odd jn
  have h := rds_itR (N := N) row.length (fun k (s : Int) => w64 (s + w.getD (row.getD k 0).toNat 0)) (fun k s => s = sumAt w (row.take k)) (ref02_odd.b1 N row w fun sum => some (sum.tmod 2 == 1)) (fun sum => some (sum.tmod 2 == 1)) (s := 0) (by simp [sumAt]) (fun k s hk hI => ?_) (fun k s rec hk hI => ?_) (fun s rec hI => ?_) hN
  · refine h.1.trans ?_
    rw [h.2, List.take_length]; rfl
  · rw [hI, odd_step hw hl k hk]
  · show br (decide ((k : Int) < (row.length : Int))) _ _ = _
    rw [br_pos (by simpa using hk), chk_pos (by omega), Int.toNat_natCast, chk_pos (hin _ (getD_mem hk)), w64_succ (by omega)]
  · show br (decide ((row.length : Int) < (row.length : Int))) _ _ = _
    rw [br_neg (by simp)]
end Go.Sh

/-
  Parity-check codes: the rows that fail, the word of bits, flipping.
-/
namespace Go.Sh
open Go.PW

/-! ### The rows that fail -/
def failFrom (w : List Int) : Nat → List (List Int) → List Int
  | _, [] => []
  | k, r :: rs => if oddB w r then (k : Int) :: failFrom w (k + 1) rs else failFrom w (k + 1) rs
def failL (rows : List (List Int)) (w : List Int) : List Int := failFrom w 0 rows
theorem failFrom_length (w : List Int) : ∀ (k : Nat) (rows : List (List Int)), (failFrom w k rows).length ≤ rows.length
  | _, [] => by simp [failFrom]
  | k, r :: rs => by
    have := failFrom_length w (k + 1) rs
    rw [failFrom]; split <;> simp only [List.length_cons] <;> omega
theorem failFrom_drop (w : List Int) (rows : List (List Int)) (k : Nat) (h : k < rows.length) : failFrom w k (rows.drop k) = if oddB w (rows.getD k default) then (k : Int) :: failFrom w (k + 1) (rows.drop (k + 1)) else failFrom w (k + 1) (rows.drop (k + 1)) := by
  rw [List.drop_eq_getElem_cons h, failFrom]; simp [List.getD_eq_getElem?_getD, h]
def rowsIn (rows : List (List Int)) (n : Nat) : Prop := ∀ r ∈ rows, r.length ≤ 8 ∧ ∀ x ∈ r, 0 ≤ x ∧ x < (n : Int)
theorem fail_loop {N : Nat} (rows : List (List Int)) (w : List Int) (b : (Int × List Int → Option (List Int)) → Int × List Int → Option (List Int)) (hl : rows.length ≤ 1000) (hN : rows.length < N)
    (hstep : ∀ k acc rec, k < rows.length → acc.length ≤ k → b rec ((k : Int), acc) = if oddB w (rows.getD k default) = true then rec (((k + 1 : Nat) : Int), acc ++ [(k : Int)]) else rec (((k + 1 : Nat) : Int), acc)) (hend : ∀ acc rec, b rec ((rows.length : Int), acc) = some acc) :
    rds b N (0, []) = some (failL rows w) := by
  refine rds_spec (fun s : Int × List Int => ∃ k : Nat, k ≤ rows.length ∧ s.1 = k ∧ s.2.length ≤ k ∧ s.2 ++ failFrom w k (rows.drop k) = failL rows w) (fun s => rows.length - s.1.toNat) (fun _ => some (failL rows w)) (fun rec s hI hrec => ?_) N (0, []) ⟨0, Nat.zero_le _, rfl, by simp, by simp [failL]⟩ (by simp; omega)
  obtain ⟨k, hk, h1, h2, h3⟩ := hI
  obtain ⟨i, acc⟩ := s
  simp only at h1 h2 h3
  subst h1
  by_cases hkl : k < rows.length
  · rw [hstep k acc rec hkl h2]
    rw [failFrom_drop w rows k hkl] at h3
    by_cases ho : oddB w (rows.getD k default) = true
    · rw [if_pos ho] at h3 ⊢
      exact hrec _ ⟨k + 1, hkl, rfl, by simp; omega, by simpa using h3⟩ (by simp only [Int.toNat_natCast]; omega)
    · rw [if_neg ho] at h3 ⊢
      exact hrec _ ⟨k + 1, hkl, rfl, by simp; omega, h3⟩ (by simp only [Int.toNat_natCast]; omega)
  · have : k = rows.length := by omega
    subst this
    rw [hend]
    rw [List.drop_length, failFrom, List.append_nil] at h3
    rw [h3]
theorem failed_eq {N : Nat} (info : Int) (rows : List (List Int)) (w : List Int) (hw : bits w) (hin : rowsIn rows w.length) (hl : rows.length ≤ 1000) (hN : rows.length < N) (hN2 : 100 < N) : code_failed N info rows w = some (failL rows w) := by
  unfold code_failed jn
  refine fail_loop rows w _ hl hN (fun k acc rec hk ha => ?_) (fun acc rec => ?_)
  · show br (decide ((k : Int) < (rows.length : Int))) _ _ = _
    have hr := hin _ (getD_mem (d := default) hk)
    rw [br_pos (by simpa using hk), chk_pos (by omega), Int.toNat_natCast, odd_eq w _ hw hr.2 (by omega) (by omega), bnd_val, w64_succ (by omega), chk_pos (by simp; omega)]
    rfl
  · show br (decide ((rows.length : Int) < (rows.length : Int))) _ _ = _
    rw [br_neg (by simp)]
theorem refFailed_eq {N : Nat} (info : Int) (rows : List (List Int)) (w : List Int) (hw : bits w) (hin : rowsIn rows w.length) (hl : rows.length ≤ 1000) (hN : rows.length < N) (hN2 : 100 < N) : ref02_Failed N info rows w = some (failL rows w) := by
  unfold ref02_Failed jn
  refine fail_loop rows w _ hl hN (fun k acc rec hk ha => ?_) (fun acc rec => ?_)
  · show br (decide ((k : Int) < (rows.length : Int))) _ _ = _
    have hr := hin _ (getD_mem (d := default) hk)
    rw [br_pos (by simpa using hk), chk_pos (by omega), Int.toNat_natCast, refodd_eq w _ hw hr.2 (by omega) (by omega), bnd_val, w64_succ (by omega), chk_pos (by simp; omega)]
    rfl
  · show br (decide ((rows.length : Int) < (rows.length : Int))) _ _ = _
    rw [br_neg (by simp)]

/-! ### Flipping -/
def flipAt (w : List Int) (i : Nat) : List Int := w.set i (1 - w.getD i 0)
theorem flipAt_length (w : List Int) (i : Nat) : (flipAt w i).length = w.length := by simp [flipAt]
theorem flipAt_bits {w : List Int} (h : bits w) (i : Nat) : bits (flipAt w i) := bits_set h i (by have := bits_getD h i; omega)
theorem flipAt_w64 {w : List Int} (h : bits w) (i : Nat) : w.set i (w64 (1 - w.getD i 0)) = flipAt w i := by
  have := bits_getD h i
  rw [w64_id (by omega)]; rfl
theorem flipAt_flipAt (w : List Int) (i : Nat) (hi : i < w.length) : flipAt (flipAt w i) i = w := by
  unfold flipAt
  have e : (w.set i (1 - w.getD i 0)).getD i 0 = 1 - w.getD i 0 := by simp [List.getD_eq_getElem?_getD, hi]
  rw [e, List.set_set]
  refine ext_getD (by simp) fun j hj => ?_
  have hj' : j < w.length := by simpa using hj
  by_cases h : i = j
  · subst h; simp [List.getD_eq_getElem?_getD, hi]; omega
  · simp [List.getD_eq_getElem?_getD, List.getElem?_set, h]
def nfail (rows : List (List Int)) (w : List Int) : Nat := (failL rows w).length
theorem nfail_le (rows : List (List Int)) (w : List Int) : nfail rows w ≤ rows.length := failFrom_length w 0 rows
def bestStep (rows : List (List Int)) (w : List Int) (i : Nat) (s : Int × Int) : Int × Int := if (nfail rows (flipAt w i) : Int) < s.2 then ((i : Int), (nfail rows (flipAt w i) : Int)) else s
def bestOf (rows : List (List Int)) (w : List Int) : Int × Int := itN (bestStep rows w) w.length (-1, (nfail rows w : Int))
def BestI (rows : List (List Int)) (w : List Int) (k : Nat) (s : Int × Int) : Prop :=
  (∀ j, j < k → s.2 ≤ (nfail rows (flipAt w j) : Int)) ∧ ((s.1 = -1 ∧ s.2 = (nfail rows w : Int)) ∨ ∃ b : Nat, b < k ∧ s.1 = b ∧ s.2 = (nfail rows (flipAt w b) : Int) ∧ s.2 < (nfail rows w : Int))
theorem bestStep_I (rows : List (List Int)) (w : List Int) (k : Nat) (s : Int × Int) (h : BestI rows w k s) : BestI rows w (k + 1) (bestStep rows w k s) := by
  obtain ⟨h1, h2⟩ := h
  have hle : s.2 ≤ (nfail rows w : Int) := by
    rcases h2 with ⟨_, h⟩ | ⟨_, _, _, _, h⟩ <;> omega
  unfold bestStep
  by_cases hlt : (nfail rows (flipAt w k) : Int) < s.2
  · rw [if_pos hlt]
    refine ⟨fun j hj => ?_, .inr ⟨k, by omega, rfl, rfl, by show (nfail rows (flipAt w k) : Int) < _; omega⟩⟩
    show (nfail rows (flipAt w k) : Int) ≤ _
    rcases Nat.lt_succ_iff_lt_or_eq.1 hj with hj | rfl
    · have := h1 j hj; omega
    · omega
  · rw [if_neg hlt]
    refine ⟨fun j hj => ?_, ?_⟩
    · rcases Nat.lt_succ_iff_lt_or_eq.1 hj with hj | rfl
      · exact h1 j hj
      · omega
    · rcases h2 with h | ⟨b, hb, h⟩
      · exact .inl h
      · exact .inr ⟨b, by omega, h⟩
theorem bestOf_I (rows : List (List Int)) (w : List Int) : BestI rows w w.length (bestOf rows w) := by
  unfold bestOf
  generalize w.length = n
  induction n with
  | zero => exact ⟨fun j hj => absurd hj (Nat.not_lt_zero _), .inl ⟨rfl, rfl⟩⟩
  | succ n ih => exact bestStep_I rows w n _ ih
/-- The rounds of flipping. -/
def flipF (rows : List (List Int)) : Nat → Int → List Int → List Int × Int
  | 0, n, w => (w, n)
  | f + 1, n, w => if (bestOf rows w).1 < 0 then (w, n) else flipF rows f (n + 1) (flipAt w (bestOf rows w).1.toNat)
theorem flipF_spec (rows : List (List Int)) : ∀ (f : Nat) (n : Int) (w : List Int), nfail rows w < f → bits w → bits (flipF rows f n w).1 ∧ (flipF rows f n w).1.length = w.length ∧ n ≤ (flipF rows f n w).2 ∧
    (flipF rows f n w).2 - n + (nfail rows (flipF rows f n w).1 : Int) ≤ (nfail rows w : Int) ∧ ∀ j, j < w.length → nfail rows (flipF rows f n w).1 ≤ nfail rows (flipAt (flipF rows f n w).1 j)
  | 0, n, w, h, _ => absurd h (Nat.not_lt_zero _)
  | f + 1, n, w, h, hb => by
    obtain ⟨h1, h2⟩ := bestOf_I rows w
    rw [flipF]
    by_cases hn : (bestOf rows w).1 < 0
    · rw [if_pos hn]
      refine ⟨hb, rfl, Int.le_refl _, by show n - n + (nfail rows w : Int) ≤ _; omega, fun j hj => ?_⟩
      rcases h2 with ⟨_, h2⟩ | ⟨b, _, h3, _⟩
      · have := h1 j hj; show nfail rows w ≤ nfail rows (flipAt w j); omega
      · omega
    · rw [if_neg hn]
      rcases h2 with ⟨h2, _⟩ | ⟨b, hbl, h3, h4, h5⟩
      · omega
      rw [h3, Int.toNat_natCast]
      obtain ⟨i1, i2, i3, i4, i5⟩ := flipF_spec rows f (n + 1) (flipAt w b) (by omega) (flipAt_bits hb b)
      rw [flipAt_length] at i2 i5
      exact ⟨i1, i2, by omega, by omega, i5⟩
theorem flipF_mono (rows : List (List Int)) : ∀ (f g : Nat) (n : Int) (w : List Int), nfail rows w < f → nfail rows w < g → flipF rows f n w = flipF rows g n w
  | 0, _, _, _, h, _ => absurd h (Nat.not_lt_zero _)
  | _, 0, _, _, _, h => absurd h (Nat.not_lt_zero _)
  | f + 1, g + 1, n, w, hf, hg => by
    rw [flipF, flipF]
    by_cases hn : (bestOf rows w).1 < 0
    · rw [if_pos hn, if_pos hn]
    · rw [if_neg hn, if_neg hn]
      obtain ⟨_, h2⟩ := bestOf_I rows w
      rcases h2 with ⟨h2, _⟩ | ⟨b, hbl, h3, h4, h5⟩
      · omega
      rw [h3, Int.toNat_natCast]
      exact flipF_mono rows f g _ _ (by omega) (by omega)
def flipL (rows : List (List Int)) (w : List Int) : List Int × Int := flipF rows (nfail rows w + 1) 0 w
/-- The outer loop, of any make. -/
theorem flip_loop {R : Type} {N : Nat} (rows : List (List Int)) (w : List Int) (hb : bits w) (len : Nat) (hlen : w.length = len) (out : List Int × Int → Option R) (b : (Int × List Int → Option R) → Int × List Int → Option R) (hl : rows.length ≤ 1000) (hN : rows.length + 1 < N)
    (hstep : ∀ (n : Nat) (w : List Int) rec, n ≤ 1000 → bits w → w.length = len → b rec ((n : Int), w) = if (bestOf rows w).1 < 0 then out (w, (n : Int)) else rec (((n + 1 : Nat) : Int), flipAt w (bestOf rows w).1.toNat)) :
    rds b N (0, w) = out (flipL rows w) := by
  have hw := nfail_le rows w
  have h := rds_spec (b := b) (fun s : Int × List Int => ∃ n : Nat, s.1 = n ∧ bits s.2 ∧ s.2.length = len ∧ n + nfail rows s.2 ≤ nfail rows w) (fun s => nfail rows s.2) (fun s => out (flipF rows (nfail rows s.2 + 1) s.1 s.2)) (fun rec s hI hrec => ?_) N (0, w) ⟨0, rfl, hb, hlen, by simp⟩ (by show nfail rows w < N; omega)
  · exact h
  obtain ⟨n, h1, h2, h3, h4⟩ := hI
  obtain ⟨i, v⟩ := s
  simp only at h1 h2 h3 h4
  subst h1
  rw [hstep n v rec (by omega) h2 h3]
  simp only
  rw [flipF]
  obtain ⟨_, hbest⟩ := bestOf_I rows v
  by_cases hn : (bestOf rows v).1 < 0
  · rw [if_pos hn, if_pos hn]
  · rw [if_neg hn, if_neg hn]
    rcases hbest with ⟨hbest, _⟩ | ⟨b0, hbl, h3', h4', h5'⟩
    · omega
    rw [h3', Int.toNat_natCast]
    have hlt : nfail rows (flipAt v b0) < nfail rows v := by omega
    rw [hrec _ ⟨n + 1, rfl, flipAt_bits h2 b0, by rw [flipAt_length]; exact h3, by show n + 1 + nfail rows (flipAt v b0) ≤ _; omega⟩ hlt]
    show out (flipF rows (nfail rows (flipAt v b0) + 1) _ _) = _
    rw [flipF_mono rows (nfail rows (flipAt v b0) + 1) (nfail rows v) _ _ (by omega) hlt]
    rfl
/-- The inner loop, of any make. -/
theorem best_loop {R : Type} {N : Nat} (rows : List (List Int)) (w : List Int) (hb : bits w) (K : Int × List Int → Option R) (b : (Int × Int × Int × List Int → Option R) → Int × Int × Int × List Int → Option R) (hN : w.length < N)
    (hstep : ∀ (k : Nat) (s : Int × Int) rec, k < w.length → b rec (s.1, s.2, (k : Int), w) = if (nfail rows (flipAt w k) : Int) < s.2 then rec ((k : Int), (nfail rows (flipAt w k) : Int), ((k + 1 : Nat) : Int), w) else rec (s.1, s.2, ((k + 1 : Nat) : Int), w))
    (hend : ∀ (s : Int × Int) rec, b rec (s.1, s.2, (w.length : Int), w) = K (s.1, w)) :
    rds b N (-1, (nfail rows w : Int), 0, w) = K ((bestOf rows w).1, w) := by
  refine rds_spec (b := b) (fun s : Int × Int × Int × List Int => ∃ k : Nat, k ≤ w.length ∧ s = ((itN (bestStep rows w) k (-1, (nfail rows w : Int))).1, (itN (bestStep rows w) k (-1, (nfail rows w : Int))).2, (k : Int), w)) (fun s => w.length - s.2.2.1.toNat) (fun _ => K ((bestOf rows w).1, w)) (fun rec s hI hrec => ?_) N _ ⟨0, Nat.zero_le _, rfl⟩ (by simp; omega)
  obtain ⟨k, hk, rfl⟩ := hI
  by_cases hkl : k < w.length
  · rw [hstep k _ rec hkl]
    have e : itN (bestStep rows w) (k + 1) (-1, (nfail rows w : Int)) = bestStep rows w k (itN (bestStep rows w) k (-1, (nfail rows w : Int))) := rfl
    by_cases hlt : (nfail rows (flipAt w k) : Int) < (itN (bestStep rows w) k (-1, (nfail rows w : Int))).2
    · rw [if_pos hlt]
      refine hrec _ ⟨k + 1, hkl, ?_⟩ (by simp only [Int.toNat_natCast]; omega)
      rw [e, bestStep, if_pos hlt]
    · rw [if_neg hlt]
      refine hrec _ ⟨k + 1, hkl, ?_⟩ (by simp only [Int.toNat_natCast]; omega)
      rw [e, bestStep, if_neg hlt]
  · have : k = w.length := by omega
    subst this
    rw [hend]; rfl
end Go.Sh

/-
  Parity-check codes: the exported functions.
-/
namespace Go.Sh
open Go.PW

theorem CopyLists_eq {N : Nat} (l : List (List Int)) (hl : l.length ≤ 1000000) (hs : ∀ r ∈ l, r.length ≤ 1000000) (hN : l.length < N) : base_CopyLists N l = some l := by
  unfold base_CopyLists jn
  refine (rds_map l.length (fun k => l.getD k default) _ some (fun k acc rec hk hac => ?_) (fun acc rec _ => ?_) hN).trans ?_
  · show br (decide ((k : Int) < (l.length : Int))) _ _ = _
    rw [br_pos (by simpa using hk), chk_pos (by omega), Int.toNat_natCast, CopyInts_eq _ _ (by have := hs _ (getD_mem (d := default) hk); omega), bnd_val, chk_pos (by simp; omega), w64_succ (by omega)]
  · show br (decide ((l.length : Int) < (l.length : Int))) _ _ = _
    rw [br_neg (by simp)]
  · congr 1
    refine List.ext_getElem (by simp) fun j h1 h2 => ?_
    simp [List.getD_eq_getElem?_getD, h2]
theorem CopyParity_eq {N : Nat} (info : Int) (l : List (List Int)) (hl : l.length ≤ 1000000) (hs : shortRows l 100) (hN : l.length < N) : ref02_CopyParity N info l = some (info, l) := by
  unfold ref02_CopyParity
  rw [CopyLists_eq l hl (fun r hr => by have := hs r hr; omega) hN]; rfl
theorem Short_eq {N : Nat} (info : Int) (rows : List (List Int)) (hN : 100 < N) : law02_Short N info rows = some (!(decide (6 < rows.length) && decide (rows.length ≤ 20) || decide (22 < rows.length)) && rows.all fun r => decide (r.length ≤ 10)) := by
  unfold law02_Short
  by_cases h : (6 < rows.length ∧ rows.length ≤ 20) ∨ 22 < rows.length
  · have e : ((decide ((rows.length : Int) > 6) && decide ((rows.length : Int) ≤ 20)) || decide ((rows.length : Int) > 22)) = true := by simp; omega
    have e2 : (decide (6 < rows.length) && decide (rows.length ≤ 20) || decide (22 < rows.length)) = true := by simp; omega
    rw [e, e2]; rfl
  · have e : ((decide ((rows.length : Int) > 6) && decide ((rows.length : Int) ≤ 20)) || decide ((rows.length : Int) > 22)) = false := by simp; omega
    have e2 : (decide (6 < rows.length) && decide (rows.length ≤ 20) || decide (22 < rows.length)) = false := by simp; omega
    rw [e, e2, br_false, jn]
    rw [rds_scan rows default (fun r => !decide (r.length ≤ 10)) (some false) (some true) _ (fun k rec hk => ?_) (fun rec => ?_) (by omega)]
    · rw [List.all_eq_not_any_not]
      cases rows.any fun r => !decide (r.length ≤ 10) <;> rfl
    · show br (decide ((k : Int) < (rows.length : Int))) _ _ = _
      rw [br_pos (by simpa using hk), chk_pos (by omega), Int.toNat_natCast, w64_succ (by omega)]
      by_cases hr : (rows.getD k default).length ≤ 10
      · rw [br_neg (decide_eq_false (by omega))]
        simp only [decide_eq_true hr, Bool.not_true, Bool.false_eq_true, if_false]
      · rw [br_pos (decide_eq_true (by omega))]
        simp only [decide_eq_false hr, Bool.not_false, if_true]
    · show br (decide ((rows.length : Int) < (rows.length : Int))) _ _ = _
      rw [br_neg (by simp)]
theorem parityErr_eq {N : Nat} (info : Int) (rows : List (List Int)) (hs : shortRows rows 100) (hl : rows.length < 1000000) (hN : rows.length < N) (hN2 : 100 < N) : code_parityErr N info rows = some (parityOf info rows).2 := by
  unfold code_parityErr
  rw [CheckParity_eq info rows hs hl hN hN2]; rfl
def wordErrOf (info : Int) (rows : List (List Int)) (w : List Int) : Int := firstOf [(parityOf info rows).2, listErr 200 isBitB 15 w, if (w.length : Int) = info + rows.length then 0 else 10]
theorem parityOf_range {info : Int} {rows : List (List Int)} (h : (parityOf info rows).2 = 0) : (1 ≤ info ∧ info ≤ 40) ∧ rows.length ≤ 20 := by
  have := parOK_of h
  exact ⟨this.hinfo, this.hlen.2⟩
theorem wordErr_eq {N : Nat} (info : Int) (rows : List (List Int)) (w : List Int) (hs : shortRows rows 100) (hl : rows.length < 1000000) (hN : rows.length < N) (hN2 : 100 < N) (hw : w.length < 1000000) (hN3 : w.length < N) (hi : -9223372036854775808 ≤ info ∧ info ≤ 9223372036854775807) :
    code_wordErr N info rows w = some (wordErrOf info rows w) := by
  unfold code_wordErr
  rw [parityErr_eq info rows hs hl hN hN2, bnd_val, bitsErr_eq w (by omega) hN3 (by omega), bnd_val, unless_eq, bnd_val, first_eq _ (by simp) (by simp; omega), bnd_val]
  unfold wordErrOf
  by_cases h : (parityOf info rows).2 = 0
  · obtain ⟨h1, h2⟩ := parityOf_range h
    rw [w64_id (by omega)]
    by_cases h3 : (w.length : Int) = info + rows.length
    · rw [if_pos h3, if_pos (by rw [h3]; exact beq_self_eq_true _)]
    · rw [if_neg h3, if_neg (by rw [beq_iff_eq]; exact h3)]
  · simp only [firstOf, h, if_false]
/-- A right code and a right word. -/
structure WordOK (info : Int) (rows : List (List Int)) (w : List Int) : Prop where
  par : ParOK info rows
  bits : bits w
  len : (w.length : Int) = info + rows.length
theorem wordOK_of {info : Int} {rows : List (List Int)} {w : List Int} (h : wordErrOf info rows w = 0) : WordOK info rows w := by
  obtain ⟨h1, h2, h3⟩ := firstOf3 h
  obtain ⟨_, _, hb⟩ := listErr_zero (by decide) h2
  refine ⟨parOK_of h1, bits_of_all hb, ?_⟩
  by_cases h : (w.length : Int) = info + rows.length
  · exact h
  · rw [if_neg h] at h3; exact absurd h3 (by decide)
theorem rows_in {info : Int} {rows : List (List Int)} (h : ParOK info rows) {n : Nat} (hn : info + rows.length ≤ n) : rowsIn rows n := fun r hr => by
  obtain ⟨k, hk, rfl⟩ := List.mem_iff_getElem.1 hr
  have hrow := h.hrow k hk
  have e : rows.getD k default = rows[k] := by simp [List.getD_eq_getElem?_getD, hk]
  rw [e] at hrow
  exact ⟨hrow.len.2, fun x hx => by have := hrow.inr x hx; omega⟩
theorem Failed_eq {N : Nat} (info : Int) (rows : List (List Int)) (w : List Int) (hs : shortRows rows 100) (hl : rows.length < 1000000) (hN : rows.length < N) (hN2 : 100 < N) (hw : w.length < 1000000) (hN3 : w.length < N) (hi : -9223372036854775808 ≤ info ∧ info ≤ 9223372036854775807) :
    code_Failed N info rows w = some (if wordErrOf info rows w = 0 then failL rows w else [], wordErrOf info rows w) := by
  unfold code_Failed
  rw [wordErr_eq info rows w hs hl hN hN2 hw hN3 hi, bnd_val]
  by_cases h : wordErrOf info rows w = 0
  · have ho := wordOK_of h
    have := ho.par.hlen
    rw [h, br_00, failed_eq info rows w ho.bits (rows_in ho.par (by have := ho.len; omega)) (by omega) hN hN2, bnd_val, if_pos rfl]
  · rw [br_pos (by rw [bne_iff_ne]; exact h), if_neg h]
theorem set_flip {w : List Int} (hb : bits w) (k : Nat) (hk : k < w.length) : ((w.set k (w64 (1 - w.getD k 0))).set k (w64 (1 - (w.set k (w64 (1 - w.getD k 0))).getD k 0))) = w := by
  rw [flipAt_w64 hb k, flipAt_w64 (flipAt_bits hb k) k, flipAt_flipAt w k hk]
theorem Flip_b2_eq {N : Nat} (info : Int) (rows : List (List Int)) (v : List Int) (hv : bits v) (hvin : rowsIn rows v.length) (hl : rows.length ≤ 1000) (hN : rows.length < N) (hN2 : 100 < N) (hN3 : v.length < N) (hvl : v.length < 1000000) (K : Int × List Int → Option (List Int × Int × Int)) :
    rds (code_Flip.b2 N info rows v K) N (-1, (nfail rows v : Int), 0, v) = K ((bestOf rows v).1, v) := by
  refine best_loop rows v hv K _ hN3 (fun k s rec' hk => ?_) (fun s rec' => ?_)
  · show br (decide ((k : Int) < (v.length : Int))) _ _ = _
    rw [br_pos (by simpa using hk), chk_pos (by omega), chk_pos (by omega), Int.toNat_natCast, set_flip hv k hk, flipAt_w64 hv k]
    rw [failed_eq info rows (flipAt v k) (flipAt_bits hv k) (by rw [flipAt_length]; exact hvin) (by omega) hN (by omega), bnd_val, w64_succ (by omega)]
    show br (decide ((nfail rows (flipAt v k) : Int) < s.2)) _ _ = _
    by_cases hlt : (nfail rows (flipAt v k) : Int) < s.2
    · rw [br_pos (decide_eq_true hlt), if_pos hlt, chk_pos (by rw [flipAt_length]; omega), chk_pos (by rw [flipAt_length]; omega)]; rfl
    · rw [br_neg (decide_eq_false hlt), if_neg hlt, chk_pos (by rw [flipAt_length]; omega), chk_pos (by rw [flipAt_length]; omega)]
  · show br (decide ((v.length : Int) < (v.length : Int))) _ _ = _
    rw [br_neg (by simp)]
theorem Flip_eq {N : Nat} (info : Int) (rows : List (List Int)) (w : List Int) (hs : shortRows rows 100) (hl : rows.length < 1000000) (hN : rows.length < N) (hN2 : 2000 < N) (hw : w.length < 1000000) (hN3 : w.length < N) (hi : -9223372036854775808 ≤ info ∧ info ≤ 9223372036854775807) :
    code_Flip N info rows w = some (if wordErrOf info rows w = 0 then ((flipL rows w).1, (flipL rows w).2, 0) else ([], 0, wordErrOf info rows w)) := by
  unfold code_Flip
  rw [wordErr_eq info rows w hs hl hN (by omega) hw hN3 hi, bnd_val]
  by_cases h : wordErrOf info rows w = 0
  case neg => rw [br_pos (by rw [bne_iff_ne]; exact h), if_neg h]
  have ho := wordOK_of h
  have hlen := ho.par.hlen
  have hrin := rows_in ho.par (n := w.length) (by have := ho.len; omega)
  rw [h, br_00, if_pos rfl, slices_Clone_ii, chk_pos (by omega), bnd_val]
  show rds (code_Flip.b1 N info rows fun (count, b1) => some (b1, count, 0)) N (0, w) = _
  refine flip_loop rows w ho.bits w.length rfl (fun x => some (x.1, x.2, 0)) _ (by omega) (by omega) fun n v rec hn hv hvl => ?_
  show bnd (code_failed N info rows v) _ = _
  have hvin : rowsIn rows v.length := by rw [hvl]; exact hrin
  rw [failed_eq info rows v hv hvin (by omega) hN (by omega), bnd_val]
  show rds (code_Flip.b2 N info rows v _) N (-1, (nfail rows v : Int), 0, v) = _
  rw [Flip_b2_eq info rows v hv hvin (by omega) hN (by omega) (by omega) (by omega)]
  have hbest := bestOf_I rows v
  obtain ⟨_, hb2⟩ := hbest
  show br (decide ((bestOf rows v).1 < 0)) _ _ = _
  by_cases hneg : (bestOf rows v).1 < 0
  · rw [br_pos (decide_eq_true hneg), if_pos hneg]
  · rw [br_neg (decide_eq_false hneg), if_neg hneg]
    rcases hb2 with ⟨hb2, _⟩ | ⟨b0, hbl, h3', _, _⟩
    · omega
    rw [h3', chk_pos (by omega), chk_pos (by omega), w64_succ (by omega), Int.toNat_natCast, flipAt_w64 hv b0]
end Go.Sh

/-
  Parity-check codes: the reference's check; the word of bits.
-/
namespace Go.Sh
open Go.PW

theorem refRow_eq {N : Nat} (info : Int) (rows : List (List Int)) (r : Nat) (n : Int) (hn : w64 (info + r) = n) (l : List Int) (hlr : rows.getD r default = l) (hl : l.length < 1000000) (hN : l.length < N) (K : Unit → Option (Int × Int)) :
    rds (ref02_CheckParity.b2 N info rows (r : Int) K) N 0 = if placesErr n (-1) l ≠ 0 then some ((r : Int), placesErr n (-1) l) else K () := by
  refine (rds_up1 l.length _ (fun k => if placesErr n (if k = 0 then -1 else l.getD (k - 1) 0) (l.drop k) ≠ 0 then some ((r : Int), placesErr n (if k = 0 then -1 else l.getD (k - 1) 0) (l.drop k)) else K ()) (fun k rec hk hr => ?_) (fun rec => ?_) hN).trans (by simp)
  · unfold ref02_CheckParity.b2
    rw [Int.toNat_natCast, hlr, hn, br_pos (by simpa using hk), chk_pos (by omega), Within_eq, bnd_val, placesErr_drop _ _ _ _ hk, Int.toNat_natCast]
    by_cases h1 : 0 ≤ l.getD k 0 ∧ l.getD k 0 ≤ n
    · have h1b : (decide (0 ≤ l.getD k 0) && decide (l.getD k 0 ≤ n)) = true := by rw [Bool.and_eq_true, decide_eq_true_iff, decide_eq_true_iff]; exact h1
      rw [h1b, if_neg (show ¬¬(0 ≤ l.getD k 0 ∧ l.getD k 0 ≤ n) from fun h => h h1), br_neg (by rfl), w64_succ (by omega), hr]
      by_cases hk0 : k = 0
      · subst hk0
        rw [chk_pos (by simp), chk_pos (by simp), br_neg (by simp), if_pos rfl, if_neg (show ¬ l.getD 0 0 ≤ -1 by omega)]
        rfl
      · obtain ⟨j, rfl⟩ : ∃ j, k = j + 1 := ⟨k - 1, by omega⟩
        have hj : w64 (((j + 1 : Nat) : Int) - 1) = (j : Int) := by rw [w64_id (by omega)]; omega
        rw [hj, chk_pos (by omega), chk_pos (by omega), if_neg hk0, Int.toNat_natCast]
        have hd : decide (((j + 1 : Nat) : Int) > 0) = true := by simp only [decide_eq_true_iff]; omega
        rw [hd, Bool.true_and, show j + 1 - 1 = j from rfl]
        by_cases h2 : l.getD (j + 1) 0 ≤ l.getD j 0
        · rw [if_pos h2, br_pos (decide_eq_true h2)]; simp
        · rw [if_neg h2, br_neg (decide_eq_false h2)]; simp
    · have h1b : (decide (0 ≤ l.getD k 0) && decide (l.getD k 0 ≤ n)) = false := by rw [← Bool.not_eq_true, Bool.and_eq_true, decide_eq_true_iff, decide_eq_true_iff]; exact h1
      rw [h1b, if_pos h1]; simp
  · unfold ref02_CheckParity.b2
    rw [Int.toNat_natCast, hlr, br_neg (by simp)]; simp [placesErr]
theorem lastFrom_getD : ∀ (b : Int) (l : List Int), l ≠ [] → lastFrom b l = l.getD (l.length - 1) 0
  | _, [], h => absurd rfl h
  | b, [x], _ => by simp [lastFrom]
  | b, x :: y :: l, _ => by
    rw [lastFrom, lastFrom_getD x (y :: l) (by simp)]
    simp [List.getD_eq_getElem?_getD]
theorem refCheckParity_eq {N : Nat} (info : Int) (rows : List (List Int)) (hs : shortRows rows 100) (hl : rows.length < 1000000) (hN : rows.length < N) (hN2 : 100 < N) : ref02_CheckParity N info rows = some (parityOf info rows) := by
  unfold ref02_CheckParity parityOf
  rw [Within_eq, bnd_val]
  by_cases h1 : 1 ≤ info ∧ info ≤ 40
  case neg =>
    have hb : (decide (1 ≤ info) && decide (info ≤ 40)) = false := by simp only [Bool.and_eq_false_iff, decide_eq_false_iff_not]; omega
    rw [hb, if_pos h1]; rfl
  have hb : (decide (1 ≤ info) && decide (info ≤ 40)) = true := by simp; exact h1
  rw [hb, if_neg (show ¬¬(1 ≤ info ∧ info ≤ 40) from fun h => h h1), br_nt]
  by_cases h2 : rows.length = 0
  · rw [br_pos (by rw [h2]; rfl), if_pos h2]
  rw [br_neg (by rw [beq_eq_false_iff_ne]; omega), if_neg h2]
  by_cases h3 : 20 < rows.length
  · rw [br_pos (decide_eq_true (by omega)), if_pos h3]
  rw [br_neg (decide_eq_false (by omega)), if_neg h3]
  show rds (ref02_CheckParity.b1 N info rows fun _ => some (0, 0)) N 0 = _
  refine (rds_up1 rows.length _ (fun k => some (parFrom info k (rows.drop k))) (fun k rec hk hr => ?_) (fun rec => ?_) hN).trans (by simp)
  · show br (decide ((k : Int) < (rows.length : Int))) _ _ = _
    have hrl := hs _ (getD_mem (d := default) hk)
    have hw : w64 (info + (k : Int)) = info + k := w64_id (by omega)
    rw [br_pos (by simpa using hk), jn, chk_pos (by omega), parFrom_drop _ _ _ hk, jn, refRow_eq info rows k (info + k) hw (rows.getD k default) rfl (by omega) (by omega), Int.toNat_natCast, w64_succ (by omega), hr, hw]
    generalize rows.getD k default = row at *
    unfold rowErrOf
    by_cases hl2 : row.length < 2
    · rw [br_pos (decide_eq_true (by omega)), if_pos hl2]; simp
    rw [br_neg (decide_eq_false (by omega)), if_neg hl2]
    by_cases hl8 : 8 < row.length
    · rw [br_pos (decide_eq_true (by omega)), if_pos hl8]; simp
    rw [br_neg (decide_eq_false (by omega)), if_neg hl8]
    have hwl : w64 ((row.length : Int) - 1) = ((row.length - 1 : Nat) : Int) := by rw [w64_id (by omega)]; omega
    by_cases hp : placesErr (info + k) (-1) row = 0
    · have hne : row ≠ [] := by intro e; rw [e] at hl2; simp at hl2
      have hE : rowE (info + k) (-1) row = if row.getD (row.length - 1) 0 = info + k then 0 else 23 := by
        unfold rowE
        rw [if_neg (by simpa using hp), lastFrom_getD _ _ hne]
      rw [if_neg (show ¬ placesErr (info + k) (-1) row ≠ 0 by simpa using hp), hE, hwl, chk_pos (by omega), Int.toNat_natCast]
      by_cases he : row.getD (row.length - 1) 0 = info + k
      · rw [if_pos he, br_neg (by rw [he]; simp)]; simp
      · rw [if_neg he, br_pos (by rw [bne_iff_ne]; exact he)]; simp
    · have hE : rowE (info + k) (-1) row = placesErr (info + k) (-1) row := by
        unfold rowE
        rw [if_pos hp]
      rw [hE, if_pos hp, if_pos hp]
  · show br (decide ((rows.length : Int) < (rows.length : Int))) _ _ = _
    rw [br_neg (by simp)]; simp [parFrom]
theorem ParityErr_eq {N : Nat} (info : Int) (rows : List (List Int)) (hs : shortRows rows 100) (hl : rows.length < 1000000) (hN : rows.length < N) (hN2 : 100 < N) : ref02_ParityErr N info rows = some (parityOf info rows).2 := by
  unfold ref02_ParityErr
  rw [refCheckParity_eq info rows hs hl hN hN2]; rfl

/-! ### The word of bits -/
def encStep (rows : List (List Int)) (k : Nat) (out : List Int) : List Int := out ++ [if oddB out ((rows.getD k default).take ((rows.getD k default).length - 1)) then 1 else 0]
def encL (rows : List (List Int)) (l : List Int) : List Int := itN (encStep rows) rows.length l
theorem enc_length (rows : List (List Int)) (l : List Int) : ∀ n, (itN (encStep rows) n l).length = l.length + n
  | 0 => rfl
  | n + 1 => by rw [itN, encStep, List.length_append, enc_length rows l n]; simp; omega
theorem enc_bits (rows : List (List Int)) {l : List Int} (h : bits l) : ∀ n, bits (itN (encStep rows) n l)
  | 0 => h
  | n + 1 => by
    rw [itN, encStep, bits_append]
    refine ⟨enc_bits rows h n, ?_⟩
    rw [bits_cons]
    exact ⟨by split <;> simp, fun i hi => by simp at hi⟩
theorem enc_prefix (rows : List (List Int)) (l : List Int) (k : Nat) : ∀ n, k ≤ n → ∀ j, j < l.length + k → (itN (encStep rows) n l).getD j 0 = (itN (encStep rows) k l).getD j 0
  | 0, hk, j, _ => by
    have : k = 0 := by omega
    subst this; rfl
  | n + 1, hk, j, hj => by
    by_cases h : k = n + 1
    · subst h; rfl
    · rw [itN, encStep, getD_append, if_pos (by rw [enc_length]; omega)]
      exact enc_prefix rows l k n (by omega) j hj
theorem sumAt_congr {w v : List Int} : ∀ {r : List Int}, (∀ x ∈ r, w.getD x.toNat 0 = v.getD x.toNat 0) → sumAt w r = sumAt v r
  | [], _ => rfl
  | x :: r, h => by rw [sumAt, sumAt, h x List.mem_cons_self, sumAt_congr fun y hy => h y (List.mem_cons_of_mem _ hy)]
theorem failFrom_nil {w : List Int} : ∀ (k : Nat) {rows : List (List Int)}, (∀ r ∈ rows, oddB w r = false) → failFrom w k rows = []
  | _, [], _ => rfl
  | k, r :: rs, h => by
    rw [failFrom, if_neg (by rw [h r List.mem_cons_self]; decide)]
    exact failFrom_nil (k + 1) fun r' hr' => h r' (List.mem_cons_of_mem _ hr')
theorem enc_fails_none {info : Int} {rows : List (List Int)} (h : ParOK info rows) {l : List Int} (hb : bits l) (hl : (l.length : Int) = info) : failL rows (encL rows l) = [] := by
  refine failFrom_nil 0 fun r hr => ?_
  obtain ⟨k, hk, rfl⟩ := List.mem_iff_getElem.1 hr
  have hrow := h.hrow k hk
  have e : rows.getD k default = rows[k] := by simp [List.getD_eq_getElem?_getD, hk]
  rw [e] at hrow
  obtain ⟨a, ha, hain⟩ := hrow.split
  have h1 : sumAt (encL rows l) a = sumAt (itN (encStep rows) k l) a := sumAt_congr fun x hx => by
    have := hain x hx
    exact enc_prefix rows l k rows.length (by omega) x.toNat (by omega)
  have h2 : (encL rows l).getD (info + k).toNat 0 = if oddB (itN (encStep rows) k l) a then 1 else 0 := by
    have hp := enc_prefix rows l (k + 1) rows.length (by omega) (info + k).toNat (by omega)
    refine hp.trans ?_
    rw [itN, encStep, e, getD_append, if_neg (by rw [enc_length]; omega), enc_length, show (info + k).toNat - (l.length + k) = 0 by omega, ha]
    simp
  have h3 := sumAt_le (enc_bits rows hb k) a
  unfold oddB at h2 ⊢
  rw [ha, sumAt_append, h1]
  simp only [sumAt]
  rw [h2]
  generalize sumAt (itN (encStep rows) k l) a = s at *
  by_cases ho : s.tmod 2 = 1
  · have e1 : (s.tmod 2 == 1) = true := by rw [beq_iff_eq]; exact ho
    rw [e1, beq_eq_false_iff_ne]
    rw [Int.tmod_eq_emod_of_nonneg h3.1] at ho
    simp only [if_true]
    rw [Int.tmod_eq_emod_of_nonneg (by omega)]; omega
  · have e1 : (s.tmod 2 == 1) = false := by rw [beq_eq_false_iff_ne]; exact ho
    rw [e1, beq_eq_false_iff_ne]
    rw [Int.tmod_eq_emod_of_nonneg h3.1] at ho
    simp only [Bool.false_eq_true, if_false]
    rw [Int.tmod_eq_emod_of_nonneg (by omega)]; omega
theorem enc_take (rows : List (List Int)) (l : List Int) : (encL rows l).take l.length = l := by
  refine ext_getD (by rw [List.length_take, encL, enc_length]; omega) fun j hj => ?_
  rw [List.length_take, encL, enc_length] at hj
  have := enc_prefix rows l 0 rows.length (Nat.zero_le _) j (by omega)
  rw [encL]
  simp only [List.getD_eq_getElem?_getD] at this ⊢
  rw [List.getElem?_take, if_pos (by omega)]
  exact this
def encErr (info : Int) (rows : List (List Int)) (l : List Int) : Int := firstOf [(parityOf info rows).2, listErr 200 isBitB 15 l, if (l.length : Int) = info then 0 else 10]
theorem EncodeParity_eq {N : Nat} (info : Int) (rows : List (List Int)) (l : List Int) (hs : shortRows rows 100) (hl : rows.length < 1000000) (hN : rows.length < N) (hN2 : 100 < N) (hw : l.length < 1000000) (hN3 : l.length < N) :
    code_EncodeParity N info rows l = some (if encErr info rows l = 0 then encL rows l else [], encErr info rows l) := by
  unfold code_EncodeParity
  rw [parityErr_eq info rows hs hl hN hN2, bnd_val, bitsErr_eq l (by omega) hN3 (by omega), bnd_val, unless_eq, bnd_val, first_eq _ (by simp) (by simp; omega), bnd_val]
  have e0 : (if ((l.length : Int) == info) = true then (0 : Int) else 10) = if (l.length : Int) = info then 0 else 10 := by
    by_cases h : (l.length : Int) = info
    · rw [if_pos h, if_pos (by rw [h]; exact beq_self_eq_true _)]
    · rw [if_neg h, if_neg (by rw [beq_iff_eq]; exact h)]
  rw [e0]
  show br (encErr info rows l != 0) (some ([], encErr info rows l)) _ = _
  by_cases h : encErr info rows l = 0
  case neg => rw [br_pos (by rw [bne_iff_ne]; exact h), if_neg h]
  obtain ⟨h1, h2, h3⟩ := firstOf3 h
  have hp := parOK_of h1
  obtain ⟨_, _, hbl⟩ := listErr_zero (by decide) h2
  have hb := bits_of_all hbl
  have hli : (l.length : Int) = info := by
    by_cases hx : (l.length : Int) = info
    · exact hx
    · rw [if_neg hx] at h3; exact absurd h3 (by decide)
  have hlen := hp.hlen
  rw [h, br_00, if_pos rfl, slices_Clone_ii, chk_pos (by omega), bnd_val]
  show rds (code_EncodeParity.b1 N rows fun b2 => some (b2, 0)) N (0, l) = _
  refine (rds_it rows.length (encStep rows) (fun k out => out.length = l.length + k ∧ bits out) _ (fun b2 => some (b2, 0)) (s := l) ⟨rfl, hb⟩ (fun k s hk hI => ?_) (fun k s rec hk hI => ?_) (fun s rec _ => ?_) hN).1
  · refine ⟨by rw [encStep, List.length_append, hI.1]; simp; omega, ?_⟩
    rw [encStep, bits_append]
    refine ⟨hI.2, ?_⟩
    rw [bits_cons]
    exact ⟨by split <;> simp, fun i hi => by simp at hi⟩
  · show br (decide ((k : Int) < (rows.length : Int))) _ _ = _
    have hrow := hp.hrow k hk
    have hrl := hrow.len
    obtain ⟨a, ha, hain⟩ := hrow.split
    rw [br_pos (by simpa using hk), chk_pos (by omega), Int.toNat_natCast]
    unfold encStep
    generalize rows.getD k default = row at *
    have hwl : w64 ((row.length : Int) - 1) = ((row.length - 1 : Nat) : Int) := by rw [w64_id (by omega)]; omega
    have hta : row.take (row.length - 1) = a := by rw [ha]; simp
    rw [hwl, chk_pos (by omega), Int.toNat_natCast, hta, odd_eq s a hI.2 (fun x hx => by have := hain x hx; omega) (by rw [ha] at hrl; simp at hrl; omega) (by rw [ha] at hrl; simp at hrl; omega), bnd_val, w64_succ (by omega)]
    cases oddB s a
    · rw [br_false, chk_pos (by simp; omega)]; rfl
    · rw [br_true, chk_pos (by simp; omega)]; rfl
  · show br (decide ((rows.length : Int) < (rows.length : Int))) _ _ = _
    rw [br_neg (by simp)]
end Go.Sh

/-
  NO WORSE, AND NO BETTER: the law's shallow function tells true.
-/
namespace Go.Sh
open Go.PW

theorem wordErr_zero {info : Int} {rows : List (List Int)} {w : List Int} (h : (parityOf info rows).2 = 0) (hb : bits w) (hl : (w.length : Int) = info + rows.length) : wordErrOf info rows w = 0 := by
  obtain ⟨h1, h2⟩ := parityOf_range h
  unfold wordErrOf
  rw [h, listErr_ok (by omega) (by omega) (all_of_bits hb), if_pos hl]; rfl
theorem short_all {rows : List (List Int)} (h : (!(decide (6 < rows.length) && decide (rows.length ≤ 20) || decide (22 < rows.length)) && rows.all fun r => decide (r.length ≤ 10)) = true) : shortRows rows 100 ∧ rows.length ≤ 22 := by
  rw [Bool.and_eq_true] at h
  obtain ⟨h1, h2⟩ := h
  refine ⟨fun r hr => ?_, by simp at h1; omega⟩
  have := List.all_eq_true.1 h2 r hr
  simp at this; omega
theorem law_CodeFlips {N : Nat} (info : Int) (rows : List (List Int)) (bits' word : List Int) (hi : -9223372036854775808 ≤ info ∧ info ≤ 9223372036854775807) (hN : 10000 < N) : law02_CodeFlips N info rows bits' word = some true := by
  unfold law02_CodeFlips
  rw [awake_eq (by omega), bnd_val, br_nt, Short_eq info rows (by omega), bnd_val]
  cases hsh : (!(decide (6 < rows.length) && decide (rows.length ≤ 20) || decide (22 < rows.length)) && rows.all fun r => decide (r.length ≤ 10))
  · simp
  obtain ⟨hs, hl22⟩ := short_all hsh
  simp only [Bool.not_true, Bool.not_false, grd_true, bnd_val, Bool.false_or]
  rw [ParityErr_eq info rows hs (by omega) (by omega) (by omega), bnd_val]
  by_cases h1 : (parityOf info rows).2 = 0
  case neg =>
    have : ((parityOf info rows).2 != 0) = true := by rw [bne_iff_ne]; exact h1
    simp [this]
  have hp := parOK_of h1
  have hinfo := hp.hinfo
  have hlen := hp.hlen
  rw [h1]
  by_cases h2 : (bits'.length : Int) = info
  case neg =>
    have : ((bits'.length : Int) != info) = true := by rw [bne_iff_ne]; exact h2
    simp [this]
  have e2 : ((bits'.length : Int) != info) = false := by rw [h2]; simp
  rw [e2, refBitsErr_eq bits' (by omega) (by omega), w64_id (n := info + rows.length) (by omega)]
  simp only [Bool.or_false, bne_self_eq_false, Bool.not_false, grd_true, bnd_val]
  by_cases h3 : listErr 200 isBitB 15 bits' = 0
  case neg =>
    have : (listErr 200 isBitB 15 bits' != 0) = true := by rw [bne_iff_ne]; exact h3
    simp [this]
  rw [h3]
  by_cases h4 : (word.length : Int) = info + rows.length
  case neg =>
    have : ((word.length : Int) != info + rows.length) = true := by rw [bne_iff_ne]; exact h4
    simp [this]
  have e4 : ((word.length : Int) != info + rows.length) = false := by rw [h4]; simp
  rw [e4]
  by_cases h5 : (word.length : Int) > 50
  · simp [h5]
  rw [decide_eq_false h5, refBitsErr_eq word (by omega) (by omega)]
  simp only [Bool.or_false, bne_self_eq_false, Bool.not_false, grd_true, bnd_val]
  by_cases h6 : listErr 200 isBitB 15 word = 0
  case neg =>
    have : (listErr 200 isBitB 15 word != 0) = true := by rw [bne_iff_ne]; exact h6
    simp [this]
  rw [h6]
  simp only [bne_self_eq_false, Bool.false_or, br_false]
  obtain ⟨_, _, hbb'⟩ := listErr_zero (by decide) h3
  have hbb := bits_of_all hbb'
  obtain ⟨_, _, hbw'⟩ := listErr_zero (by decide) h6
  have hbw := bits_of_all hbw'
  have hEnc : encErr info rows bits' = 0 := by unfold encErr; rw [h1, h3, if_pos h2]; rfl
  have hlenE : (encL rows bits').length = bits'.length + rows.length := enc_length rows bits' rows.length
  have hbE : bits (encL rows bits') := enc_bits rows hbb rows.length
  have hwE : wordErrOf info rows (encL rows bits') = 0 := wordErr_zero h1 hbE (by omega)
  have hwW : wordErrOf info rows word = 0 := wordErr_zero h1 hbw h4
  obtain ⟨f1, f2, f3, f4, f5⟩ := flipF_spec rows (nfail rows word + 1) 0 word (by omega) hbw
  have hFl : flipF rows (nfail rows word + 1) 0 word = flipL rows word := rfl
  rw [hFl] at f1 f2 f3 f4 f5
  have hnw := nfail_le rows word
  rw [CopyParity_eq info rows (by omega) hs (by omega), bnd_val, CopyInts_eq _ bits' (by omega), bnd_val]
  simp only [bnd_val]
  rw [EncodeParity_eq info rows bits' hs (by omega) (by omega) (by omega) (by omega) (by omega), hEnc]
  simp only [bnd_val, if_true]
  rw [chk_pos (fun _ => by omega)]
  have eL : (((encL rows bits').length : Int) != (word.length : Int)) = false := by rw [bne_eq_false_iff_eq]; omega
  simp only [bne_self_eq_false, eL, Bool.or_false, Bool.not_false, grd_true, Int.toNat_natCast]
  rw [enc_take, Ints_eq _ _ (by omega) (by omega)]
  simp only [decide_true, bnd_val, Bool.not_true, br_false]
  rw [Failed_eq info rows (encL rows bits') hs (by omega) (by omega) (by omega) (by omega) (by omega) hi, hwE]
  simp only [if_true, bnd_val]
  rw [enc_fails_none hp hbb h2, CopyInts_eq _ word (by omega)]
  simp only [bnd_val]
  rw [Failed_eq info rows word hs (by omega) (by omega) (by omega) (by omega) (by omega) hi, hwW]
  simp only [if_true, bnd_val]
  rw [Flip_eq info rows word hs (by omega) (by omega) (by omega) (by omega) (by omega) hi, hwW]
  simp only [if_true, bnd_val]
  generalize flipL rows word = X at *
  obtain ⟨x, n⟩ := X
  simp only at f1 f2 f3 f4 f5 ⊢
  have hwx : wordErrOf info rows x = 0 := wordErr_zero h1 f1 (by omega)
  have eX : ((x.length : Int) != (word.length : Int)) = false := by rw [f2]; simp
  rw [eX, AreBits_eq x (by omega) (by omega), all_of_bits f1]
  simp only [bne_self_eq_false, List.length_nil, Int.natCast_zero, Int.lt_irrefl, gt_iff_lt, decide_false, Bool.or_false, Bool.not_false, grd_true, bnd_val, Bool.not_true, br_false]
  rw [CopyInts_eq _ x (by omega)]
  simp only [bnd_val]
  rw [Failed_eq info rows x hs (by omega) (by omega) (by omega) (by omega) (by omega) hi, hwx]
  simp only [if_true, bnd_val, bne_self_eq_false, Bool.not_false, grd_true]
  rw [Within_eq]
  have hnx : ((failL rows x).length : Int) = (nfail rows x : Int) := rfl
  have hnw' : ((failL rows word).length : Int) = (nfail rows word : Int) := rfl
  rw [hnx, hnw', w64_id (by omega), decide_eq_true (show 0 ≤ n by omega), decide_eq_true (show n ≤ (nfail rows word : Int) - (nfail rows x : Int) by omega)]
  simp only [Bool.and_self, bnd_val, Bool.not_true, Bool.or_false, br_false]
  show rds (law02_CodeFlips.b1 N info rows x (failL rows x) fun _ => some true) N 0 = _
  refine rds_up1 x.length _ (fun _ => some true) (fun k rec hk hr => ?_) (fun rec => ?_) (by omega)
  · show br (decide ((k : Int) < (x.length : Int))) _ _ = _
    rw [br_pos (by simpa using hk), CopyInts_eq _ x (by omega), bnd_val, chk_pos (by omega), chk_pos (by omega), CopyParity_eq info rows (by omega) hs (by omega), bnd_val, Int.toNat_natCast, flipAt_w64 f1 k]
    show bnd (code_Failed N info rows (flipAt x k)) _ = _
    have hwk : wordErrOf info rows (flipAt x k) = 0 := wordErr_zero h1 (flipAt_bits f1 k) (by rw [flipAt_length]; omega)
    rw [Failed_eq info rows (flipAt x k) hs (by omega) (by omega) (by omega) (by rw [flipAt_length]; omega) (by rw [flipAt_length]; omega) hi, hwk]
    simp only [if_true, bnd_val, bne_self_eq_false, Bool.false_or]
    have := f5 k (by omega)
    rw [br_neg (decide_eq_false (show ¬ (((failL rows (flipAt x k)).length : Int) < ((failL rows x).length : Int)) from by unfold nfail at this; omega)), w64_succ (by omega), hr]
  · show br (decide ((x.length : Int) < (x.length : Int))) _ _ = _
    rw [br_neg (by simp)]
end Go.Sh

/-
  Parity-check codes against the reference: the law's shallow function tells true.
-/
namespace Go.Sh
open Go.PW

theorem refEncodeParity_eq {N : Nat} (info : Int) (rows : List (List Int)) (l : List Int) (hp : ParOK info rows) (hb : bits l) (hli : (l.length : Int) = info) (hN : rows.length < N) (hN2 : 100 < N) :
    ref02_EncodeParity N info rows l = some (encL rows l) := by
  have hinfo := hp.hinfo
  have hlen := hp.hlen
  unfold ref02_EncodeParity
  rw [CopyInts_eq _ _ (by omega), bnd_val]
  show rds (ref02_EncodeParity.b1 N rows fun b1 => some b1) N (0, l) = _
  refine (rds_it rows.length (encStep rows) (fun k out => out.length = l.length + k ∧ bits out) _ some (s := l) ⟨rfl, hb⟩ (fun k s hk hI => ?_) (fun k s rec hk hI => ?_) (fun s rec _ => ?_) hN).1
  · refine ⟨by rw [encStep, List.length_append, hI.1]; simp; omega, ?_⟩
    rw [encStep, bits_append]
    refine ⟨hI.2, ?_⟩
    rw [bits_cons]
    exact ⟨by split <;> simp, fun i hi => by simp at hi⟩
  · show br (decide ((k : Int) < (rows.length : Int))) _ _ = _
    have hrow := hp.hrow k hk
    have hrl := hrow.len
    obtain ⟨a, ha, hain⟩ := hrow.split
    have hb0 : bits (s ++ [0]) := by rw [bits_append, bits_cons]; exact ⟨hI.2, by simp, fun i hi => by simp at hi⟩
    rw [br_pos (by simpa using hk), chk_pos (by simp; omega), chk_pos (by omega), Int.toNat_natCast]
    unfold encStep
    rw [refodd_eq (s ++ [0]) (rows.getD k default) hb0 (fun x hx => by have := hrow.inr x hx; rw [List.length_append, List.length_singleton]; omega) (by omega) (by omega), bnd_val, w64_succ (by omega)]
    have ho : oddB (s ++ [0]) (rows.getD k default) = oddB s ((rows.getD k default).take ((rows.getD k default).length - 1)) := by
      generalize rows.getD k default = row at *
      have hta : row.take (row.length - 1) = a := by rw [ha]; simp
      rw [hta, ha]
      unfold oddB
      rw [sumAt_append]
      have h1 : sumAt (s ++ [0]) a = sumAt s a := sumAt_congr fun x hx => by
        have := hain x hx
        rw [getD_append, if_pos (by omega)]
      have h2 : (s ++ [0]).getD (info + k).toNat 0 = 0 := by
        rw [getD_append, if_neg (by omega), show (info + k).toNat - s.length = 0 by omega]; rfl
      rw [h1]
      simp only [sumAt, h2, Int.add_zero]
    rw [ho]
    cases oddB s ((rows.getD k default).take ((rows.getD k default).length - 1))
    · rfl
    · have hw : w64 (((s ++ [(0 : Int)]).length : Int) - 1) = (s.length : Int) := by rw [List.length_append, List.length_singleton, w64_id (by omega)]; omega
      rw [br_true, hw, chk_pos (by rw [List.length_append, List.length_singleton]; omega), Int.toNat_natCast]
      simp
  · show br (decide ((rows.length : Int) < (rows.length : Int))) _ _ = _
    rw [br_neg (by simp)]
theorem refFlip_b2_eq {N : Nat} (info : Int) (rows : List (List Int)) (v : List Int) (hv : bits v) (hvin : rowsIn rows v.length) (hl : rows.length ≤ 1000) (hN : rows.length < N) (hN2 : 100 < N) (hN3 : v.length < N) (hvl : v.length < 1000000) (K : Int × List Int → Option (List Int × Int)) :
    rds (ref02_Flip.b2 N info rows K) N (-1, (nfail rows v : Int), 0, v) = K ((bestOf rows v).1, v) := by
  refine best_loop rows v hv K _ hN3 (fun k s rec' hk => ?_) (fun s rec' => ?_)
  · show br (decide ((k : Int) < (v.length : Int))) _ _ = _
    rw [br_pos (by simpa using hk), chk_pos (by omega), chk_pos (by omega), Int.toNat_natCast, set_flip hv k hk, flipAt_w64 hv k]
    rw [refFailed_eq info rows (flipAt v k) (flipAt_bits hv k) (by rw [flipAt_length]; exact hvin) (by omega) hN (by omega), bnd_val, w64_succ (by omega)]
    show br (decide ((nfail rows (flipAt v k) : Int) < s.2)) _ _ = _
    by_cases hlt : (nfail rows (flipAt v k) : Int) < s.2
    · rw [br_pos (decide_eq_true hlt), if_pos hlt, chk_pos (by rw [flipAt_length]; omega), chk_pos (by rw [flipAt_length]; omega)]; rfl
    · rw [br_neg (decide_eq_false hlt), if_neg hlt, chk_pos (by rw [flipAt_length]; omega), chk_pos (by rw [flipAt_length]; omega)]
  · show br (decide ((v.length : Int) < (v.length : Int))) _ _ = _
    rw [br_neg (by simp)]
theorem refFlip_eq {N : Nat} (info : Int) (rows : List (List Int)) (w : List Int) (ho : WordOK info rows w) (hN : rows.length < N) (hN2 : 2000 < N) : ref02_Flip N info rows w = some (flipL rows w) := by
  have hlen := ho.par.hlen
  have hinfo := ho.par.hinfo
  have hwl := ho.len
  have hrin := rows_in ho.par (n := w.length) (by omega)
  unfold ref02_Flip
  rw [CopyInts_eq _ _ (by omega), bnd_val]
  refine flip_loop rows w ho.bits w.length rfl some _ (by omega) (by omega) fun n v rec hn hv hvl => ?_
  show bnd (ref02_Failed N info rows v) _ = _
  have hvin : rowsIn rows v.length := by rw [hvl]; exact hrin
  rw [refFailed_eq info rows v hv hvin (by omega) hN (by omega), bnd_val]
  show rds (ref02_Flip.b2 N info rows _) N (-1, (nfail rows v : Int), 0, v) = _
  rw [refFlip_b2_eq info rows v hv hvin (by omega) hN (by omega) (by omega) (by omega)]
  obtain ⟨_, hb2⟩ := bestOf_I rows v
  show br (decide ((bestOf rows v).1 < 0)) _ _ = _
  by_cases hneg : (bestOf rows v).1 < 0
  · rw [br_pos (decide_eq_true hneg), if_pos hneg]
  · rw [br_neg (decide_eq_false hneg), if_neg hneg]
    rcases hb2 with ⟨hb2, _⟩ | ⟨b0, hbl, h3', _, _⟩
    · omega
    rw [h3', chk_pos (by omega), chk_pos (by omega), w64_succ (by omega), Int.toNat_natCast, flipAt_w64 hv b0]
theorem chainE {R : Type} (a : Int) (c : Bool) (K : Int → Option R) : br ((a == 0) && c) (K 10) (K a) = K (firstOf [0, a, if c = true then 10 else 0]) := by
  by_cases ha : a = 0
  · subst ha
    cases c <;> simp [firstOf]
  · have : (a == 0) = false := by rw [beq_eq_false_iff_ne]; exact ha
    simp [firstOf, this, ha]
theorem chainE' {R : Type} (a : Int) (c : Bool) (rest : Int → Option R) : jn (τ := Int) rest (fun K => bnd (some a) fun x => br ((x == 0) && c) (K 10) (K x)) = rest (firstOf [0, a, if c = true then 10 else 0]) := chainE a c rest
theorem law_CodeParities {N : Nat} (info : Int) (rows : List (List Int)) (bits' word : List Int) (hi : -9223372036854775808 ≤ info ∧ info ≤ 9223372036854775807) (hN : 10000 < N) : law02_CodeParities N info rows bits' word = some true := by
  unfold law02_CodeParities
  rw [awake_eq (by omega), bnd_val, br_nt, Short_eq info rows (by omega), bnd_val, few_eq (by decide)]
  cases hsh : (!(decide (6 < rows.length) && decide (rows.length ≤ 20) || decide (22 < rows.length)) && rows.all fun r => decide (r.length ≤ 10))
  · simp
  obtain ⟨hs, hl22⟩ := short_all hsh
  cases f1 : (decide ((bits'.length : Int) ≤ 40) || (decide ((bits'.length : Int) > 200) && decide ((bits'.length : Int) ≤ 200 + 2)))
  · simp [f1]
  have hl1 := few_le (by decide) f1
  simp only [f1, Bool.not_true, Bool.not_false, grd_true, bnd_val, Bool.false_or]
  by_cases hw1 : (decide ((word.length : Int) > 50) && decide ((word.length : Int) ≤ 200) || decide ((word.length : Int) > 202)) = true
  · rw [br_pos hw1]
  rw [br_neg (by simpa using hw1)]
  have hwl : word.length ≤ 202 := by simp at hw1; omega
  clear hw1
  rw [CopyParity_eq info rows (by omega) hs (by omega), bnd_val]
  simp only [bnd_val]
  rw [CheckParity_eq info rows hs (by omega) (by omega) (by omega), CopyInts_eq _ bits' (by omega), CopyInts_eq _ word (by omega)]
  simp only [bnd_val]
  rw [EncodeParity_eq info rows bits' hs (by omega) (by omega) (by omega) (by omega) (by omega)]
  simp only [bnd_val]
  rw [Failed_eq info rows word hs (by omega) (by omega) (by omega) (by omega) (by omega) hi]
  simp only [bnd_val]
  rw [Flip_eq info rows word hs (by omega) (by omega) (by omega) (by omega) (by omega) hi]
  simp only [bnd_val]
  rw [refCheckParity_eq info rows hs (by omega) (by omega) (by omega)]
  simp only [bnd_val, bne_self_eq_false, Bool.or_self, br_false]
  by_cases h1 : (parityOf info rows).2 = 0
  case neg =>
    have eE : encErr info rows bits' = (parityOf info rows).2 := by unfold encErr; simp only [firstOf, h1, if_false]
    have eW : wordErrOf info rows word = (parityOf info rows).2 := by unfold wordErrOf; simp only [firstOf, h1, if_false]
    rw [br_pos (by rw [bne_iff_ne]; exact h1), eE, eW, if_neg h1, if_neg h1, if_neg h1]
    simp [w64_eq]
  have hp := parOK_of h1
  have hinfo := hp.hinfo
  have hlen := hp.hlen
  rw [br_neg (by rw [h1]; rfl), refBitsErr_eq bits' (by omega) (by omega), chainE']
  have eE : firstOf [0, listErr 200 isBitB 15 bits', if ((bits'.length : Int) != info) = true then 10 else 0] = encErr info rows bits' := by
    unfold encErr
    rw [h1]
    by_cases h : (bits'.length : Int) = info
    · rw [if_pos h, if_neg (by rw [h]; simp)]
    · rw [if_neg h, if_pos (by rw [bne_iff_ne]; exact h)]
  rw [eE]
  refine (held _ _ _ _ (fun h => ?_) (fun h => if_neg h) ?_ ?_).trans ?_
  · rw [if_pos h]
    obtain ⟨_, h2, h3⟩ := firstOf3 h
    obtain ⟨_, _, hbl⟩ := listErr_zero (by decide) h2
    have hli : (bits'.length : Int) = info := by
      by_cases hx : (bits'.length : Int) = info
      · exact hx
      · rw [if_neg hx] at h3; exact absurd h3 (by decide)
    exact refEncodeParity_eq info rows bits' hp (bits_of_all hbl) hli (by omega) (by omega)
  · split
    · rw [encL, enc_length]; omega
    · simp
  · split
    · rw [encL, enc_length]; omega
    · simp; omega
  rw [refBitsErr_eq word (by omega) (by omega), w64_id (n := info + rows.length) (by omega), chainE']
  have eW : firstOf [0, listErr 200 isBitB 15 word, if ((word.length : Int) != info + rows.length) = true then 10 else 0] = wordErrOf info rows word := by
    unfold wordErrOf
    rw [h1]
    by_cases h : (word.length : Int) = info + rows.length
    · rw [if_pos h, if_neg (by rw [h]; simp)]
    · rw [if_neg h, if_pos (by rw [bne_iff_ne]; exact h)]
  rw [eW]
  by_cases hW : wordErrOf info rows word = 0
  case neg =>
    rw [br_pos (by rw [bne_iff_ne]; exact hW), if_neg hW, if_neg hW]
    simp [w64_eq]
  have ho := wordOK_of hW
  obtain ⟨f1', f2', _, _, _⟩ := flipF_spec rows (nfail rows word + 1) 0 word (by omega) ho.bits
  have hFl : flipF rows (nfail rows word + 1) 0 word = flipL rows word := rfl
  rw [hFl] at f1' f2'
  have hnw := nfail_le rows word
  rw [br_neg (by rw [hW]; rfl), refFlip_eq info rows word ho (by omega) (by omega), bnd_val, hW, if_pos rfl, if_pos rfl]
  simp only [beq_self_eq_true, grd_true]
  rw [refFailed_eq info rows word ho.bits (rows_in hp (by have := ho.len; omega)) (by omega) (by omega) (by omega), bnd_val]
  have hfl : (failL rows word).length ≤ rows.length := hnw
  rw [Ints_eq _ _ (by omega) (by omega), bnd_val, Ints_eq _ _ (by omega) (by omega)]
  simp
end Go.Sh
