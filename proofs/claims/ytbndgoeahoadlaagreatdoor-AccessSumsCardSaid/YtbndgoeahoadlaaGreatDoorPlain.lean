/-
 Phones that are on in cycles: how often, and when next. Plain numbers.
-/
import Derived.Test.YtbndgoeahoadlaaGreatDoorPlA
import Derived.Test.YtbndgoeahoadlaaGreatDoorAsS
set_option linter.all false
namespace Go.Sh
open Go.PW

theorem dm {n b : Int} (hb : 0 < b) : n = b * (n / b) + n % b ∧ 0 ≤ n % b ∧ n % b < b :=
 ⟨(Int.mul_ediv_add_emod n b).symm, Int.emod_nonneg n (by omega), Int.emod_lt_of_pos n hb⟩
theorem dm_of {n b q r : Int} (hb : 0 < b) (h : n = b * q + r) (h0 : 0 ≤ r) (h1 : r < b) : n / b = q ∧ n % b = r :=
 (Int.ediv_emod_unique hb).2 ⟨by omega, h0, h1⟩
theorem mod_add_mul {x b k : Int} : (x + b * k) % b = x % b := Int.add_mul_emod_self_left x b k

def sinceF (C S t : Int) : Int := (t - S) % C
def onF (C S O t : Int) : Bool := decide (sinceF C S t < O)
theorem since_eq {C S t : Int} (hC : 0 < C) (hS : 0 ≤ S ∧ S < C) (ht : 0 ≤ t) : (t.tmod C + C - S).tmod C = sinceF C S t := by
 have h := dm (n := t) hC
 rw [Int.tmod_eq_emod_of_nonneg ht, Int.tmod_eq_emod_of_nonneg (by omega)]
 unfold sinceF
 have e : t % C + C - S = (t - S) + C * (1 - t / C) := by rw [Int.mul_sub]; omega
 rw [e, mod_add_mul]
theorem since_bd {C S t : Int} (hC : 0 < C) : 0 ≤ sinceF C S t ∧ sinceF C S t < C := ⟨Int.emod_nonneg _ (by omega), Int.emod_lt_of_pos _ hC⟩
theorem since_per {C S t k : Int} : sinceF C S (t + C * k) = sinceF C S t := by
 unfold sinceF
 rw [show t + C * k - S = (t - S) + C * k by omega, mod_add_mul]
theorem since_succ {C S t : Int} (hC : 0 < C) : sinceF C S (t + 1) = if sinceF C S t + 1 < C then sinceF C S t + 1 else 0 := by
 unfold sinceF
 have h := dm (n := t - S) hC
 split
 · exact (dm_of hC (q := (t - S) / C) (by omega) (by omega) (by omega)).2
 · exact (dm_of hC (q := (t - S) / C + 1) (by rw [Int.mul_add]; omega) (by omega) (by omega)).2
def cntF (C S O t : Int) : Int := O * ((t - S) / C) + (if sinceF C S t < O then sinceF C S t else O)
theorem cnt_succ {C S O t : Int} (hC : 0 < C) (hO : 0 ≤ O ∧ O ≤ C) : cntF C S O (t + 1) = cntF C S O t + (if onF C S O t = true then 1 else 0) := by
 have h := dm (n := t - S) hC
 have hs := since_succ (S := S) (t := t) hC
 unfold cntF onF
 simp only [decide_eq_true_eq]
 by_cases h1 : sinceF C S t + 1 < C
 ·
  rw [if_pos h1] at hs
  have hq : (t + 1 - S) / C = (t - S) / C := (dm_of hC (q := (t - S) / C) (r := sinceF C S t + 1) (by unfold sinceF; omega) (by unfold sinceF; omega) h1).1
  rw [hs, hq]
  generalize O * ((t - S) / C) = z
  split <;> split <;> omega
 ·
  rw [if_neg h1] at hs
  have hb := since_bd (S := S) (t := t) hC
  have hq : (t + 1 - S) / C = (t - S) / C + 1 := (dm_of hC (q := (t - S) / C + 1) (r := 0) (by unfold sinceF at h1 hb; rw [Int.mul_add]; omega) (by omega) hC).1
  rw [hs, hq, Int.mul_add, Int.mul_one]
  generalize O * ((t - S) / C) = z
  split <;> split <;> omega
theorem cnt_per {C S O t k : Int} (hC : 0 < C) : cntF C S O (t + C * k) = cntF C S O t + O * k := by
 unfold cntF
 rw [since_per, show t + C * k - S = (t - S) + C * k by omega, Int.add_mul_ediv_left _ _ (by omega), Int.mul_add]
 omega
theorem cnt_mono {C S O : Int} (hC : 0 < C) (hO : 0 ≤ O ∧ O ≤ C) (t : Int) : ∀ n : Nat, cntF C S O t ≤ cntF C S O (t + n) ∧ cntF C S O (t + n) ≤ cntF C S O t + n
 | 0 => by simp
 | n + 1 => by
  have ih := cnt_mono (S := S) hC hO t n
  have := cnt_succ (S := S) (O := O) (t := t + n) hC hO
  rw [show t + ((n + 1 : Nat) : Int) = t + n + 1 by omega, this]
  split <;> omega
theorem cnt_bd {C S O a b : Int} (hC : 0 < C) (hO : 0 ≤ O ∧ O ≤ C) (h : a ≤ b) : 0 ≤ cntF C S O b - cntF C S O a ∧ cntF C S O b - cntF C S O a ≤ b - a := by
 have := cnt_mono (S := S) hC hO a (b - a).toNat
 rw [show a + ((b - a).toNat : Int) = b by omega] at this
 omega
theorem cnt_same {C S O : Int} (hC : 0 < C) (hO : 0 ≤ O ∧ O ≤ C) (t : Int) : ∀ n : Nat, (∀ k : Int, t ≤ k → k < t + n → onF C S O k = false) → cntF C S O (t + n) = cntF C S O t
 | 0, _ => by simp
 | n + 1, h => by
  have ih := cnt_same hC hO t n fun k h1 h2 => h k h1 (by omega)
  have := cnt_succ (S := S) (O := O) (t := t + n) hC hO
  rw [show t + ((n + 1 : Nat) : Int) = t + n + 1 by omega, this, ih, h (t + n) (by omega) (by omega)]
  simp
def nextF (C S O t : Int) : Int := if onF C S O t = true then t else t + C - sinceF C S t
theorem since_add {C S t : Int} (hC : 0 < C) : ∀ n : Nat, (n : Int) + sinceF C S t < C → sinceF C S (t + n) = sinceF C S t + n
 | 0, _ => by simp
 | n + 1, h => by
  have ih := since_add (S := S) (t := t) hC n (by omega)
  rw [show t + ((n + 1 : Nat) : Int) = t + n + 1 by omega, since_succ hC, ih, if_pos (by omega)]
  omega
theorem next_on {C S O t : Int} (hC : 0 < C) (hO : 1 ≤ O) : onF C S O (nextF C S O t) = true := by
 unfold nextF
 split
 · assumption
 ·
  have hb := since_bd (S := S) (t := t) hC
  have h1 := since_add (S := S) (t := t) hC (C - 1 - sinceF C S t).toNat (by omega)
  have h2 := since_succ (S := S) (t := t + ((C - 1 - sinceF C S t).toNat : Int)) hC
  rw [h1, if_neg (by omega), show t + ((C - 1 - sinceF C S t).toNat : Int) + 1 = t + C - sinceF C S t by omega] at h2
  unfold onF
  rw [h2]
  simp; omega
theorem next_bd {C S O t : Int} (hC : 0 < C) (hO : 1 ≤ O) : t ≤ nextF C S O t ∧ nextF C S O t < t + C := by
 have hb := since_bd (S := S) (t := t) hC
 unfold nextF onF
 simp only [decide_eq_true_eq]
 split <;> omega
theorem next_off {C S O t k : Int} (hC : 0 < C) (h1 : t ≤ k) (h2 : k < nextF C S O t) : onF C S O k = false := by
 unfold nextF at h2
 split at h2
 · omega
 ·
  rename_i h
  have hb := since_bd (S := S) (t := t) hC
  have h3 := since_add (S := S) (t := t) hC (k - t).toNat (by omega)
  rw [show t + ((k - t).toNat : Int) = k by omega] at h3
  unfold onF at h ⊢
  rw [h3]
  simp only [decide_eq_true_eq, decide_eq_false_iff_not] at h ⊢
  omega
def wakesF (C S O lo hi : Int) : Int := (if onF C S O lo = true then 1 else 0) + (if O < C then (hi - S) / C - (lo - S) / C else 0)
theorem begin_eq {C S lo : Int} (hC : 0 < C) : lo + C - sinceF C S lo = S + C * ((lo - S) / C + 1) := by
 have h := dm (n := lo - S) hC
 unfold sinceF
 rw [Int.mul_add]; omega
theorem div_mono {C a b : Int} (hC : 0 < C) (h : a ≤ b) : a / C ≤ b / C := Int.ediv_le_ediv hC h
theorem wakes_tail {C S lo hi : Int} (hC : 0 < C) (h : lo ≤ hi) : (if lo + C - sinceF C S lo ≤ hi then (hi - (lo + C - sinceF C S lo)) / C + 1 else 0) = (hi - S) / C - (lo - S) / C := by
 rw [begin_eq hC]
 have hm := div_mono (a := lo - S) (b := hi - S) hC (by omega)
 have hh := dm (n := hi - S) hC
 split
 ·
  rename_i hb
  have : (hi - (S + C * ((lo - S) / C + 1))) = (hi - S) + C * (-((lo - S) / C + 1)) := by rw [Int.mul_neg]; omega
  rw [this, Int.add_mul_ediv_left _ _ (by omega)]
  omega
 ·
  rename_i hb
  have : (hi - S) / C < (lo - S) / C + 1 := Int.ediv_lt_of_lt_mul hC (by rw [Int.mul_comm]; omega)
  omega
theorem wakes_sum {C S O a b c : Int} (hC : 0 < C) (hO : 1 ≤ O ∧ O ≤ C) (h : a ≤ b) (h2 : b < c) : wakesF C S O a b + wakesF C S O (b + 1) c = wakesF C S O a c ∨ wakesF C S O a b + wakesF C S O (b + 1) c = wakesF C S O a c + 1 := by
 unfold wakesF
 by_cases hOC : O < C
 ·
  simp only [if_pos hOC]
  have hb := dm (n := b - S) hC
  have hs := since_succ (S := S) (t := b) hC
  by_cases h1 : sinceF C S b + 1 < C
  ·
   have hq : (b + 1 - S) / C = (b - S) / C := (dm_of hC (q := (b - S) / C) (r := sinceF C S b + 1) (by unfold sinceF; omega) (by unfold sinceF; omega) h1).1
   rw [hq]
   split <;> split <;> omega
  ·
   rw [if_neg h1] at hs
   have hbb := since_bd (S := S) (t := b) hC
   have hq : (b + 1 - S) / C = (b - S) / C + 1 := (dm_of hC (q := (b - S) / C + 1) (r := 0) (by unfold sinceF at h1 hbb; rw [Int.mul_add]; omega) (by omega) hC).1
   have hon : onF C S O (b + 1) = true := by unfold onF; rw [hs]; simp; omega
   rw [hq, hon]
   simp only [if_true]
   split <;> omega
 ·
  simp only [if_neg hOC]
  split <;> split <;> omega
theorem wakes_bd {C S O lo hi : Int} (hC : 0 < C) (h : lo ≤ hi) : 0 ≤ wakesF C S O lo hi ∧ wakesF C S O lo hi ≤ hi - lo + 2 := by
 unfold wakesF
 have h1 := div_mono (a := lo - S) (b := hi - S) hC (by omega)
 have h2 : (hi - S) / C ≤ (lo - S) / C + (hi - lo) := by
  have e : hi - S = (lo - S) + (hi - lo) := by omega
  have a1 := dm (n := lo - S) hC
  have a2 := dm (n := hi - S) hC
  rcases Int.lt_or_le ((lo - S) / C + (hi - lo)) ((hi - S) / C) with hlt | hle
  ·
   have hm : C * ((lo - S) / C + (hi - lo) + 1) ≤ C * ((hi - S) / C) := Int.mul_le_mul_of_nonneg_left (by omega) (by omega)
   rw [Int.mul_add, Int.mul_add, Int.mul_one] at hm
   have hk : 1 * (hi - lo) ≤ C * (hi - lo) := Int.mul_le_mul_of_nonneg_right (by omega) (by omega)
   omega
  · exact hle
 split <;> split <;> omega
end Go.Sh

/-
 Occasions: the next one of a frame and a subframe. Plain numbers.
-/
namespace Go.Sh
open Go.PW

end Go.Sh

/-
 Phones that sleep: what the functions of both sides come to.
-/
namespace Go.Sh
open Go.PW
noncomputable section

theorem grd_val {α : Type} (g : Bool) (d b : α) : grd g d (some b) = some (if g = true then b else d) := by unfold grd; split <;> rfl
theorem br_val {α : Type} (g : Bool) (a b : α) : br g (some a) (some b) = some (if g = true then a else b) := by unfold br; split <;> rfl
theorem ite_and_false (g b : Bool) : (if g = true then b else false) = (g && b) := by cases g <;> rfl
def inB (n lo hi : Int) : Bool := decide (lo ≤ n) && decide (n ≤ hi)
theorem inB_true {n lo hi : Int} : inB n lo hi = true ↔ lo ≤ n ∧ n ≤ hi := by simp [inB]
theorem within_eq (N : Nat) (n lo hi : Int) : access_within N n lo hi = some (inB n lo hi) := rfl
theorem Within_eq (N : Nat) (n lo hi : Int) : base_Within N n lo hi = some (inB n lo hi) := rfl
theorem unless_eq (N : Nat) (b : Bool) (e : Int) : access_unless N b e = some (if b = true then 0 else e) := br_val b 0 e
def firstF : List Int → Int
 | [] => 0
 | e :: l => if e = 0 then firstF l else e
theorem first_eq {N : Nat} {l : List Int} (hl : l.length < N) (hb : l.length ≤ 1000) : access_first N l = some (firstF l) := by
 have key : rds (access_first.b1 N l fun _ => some 0) N (0 : Int) = some (firstF (l.drop (0 : Int).toNat)) := by
  refine rds_spec (fun k : Int => 0 ≤ k ∧ k ≤ l.length) (fun k => l.length - k.toNat) (fun k => some (firstF (l.drop k.toNat))) (fun rec k hk hrec => ?_) N 0 (by omega) (by simp; omega)
  unfold access_first.b1
  by_cases h : k < (l.length : Int)
  ·
   rw [br_pos (by simpa using h), chk_pos (by omega)]
   have hkn : k.toNat < l.length := by omega
   have hd : l.drop k.toNat = l.getD k.toNat 0 :: l.drop (k.toNat + 1) := by
    rw [List.drop_eq_getElem_cons hkn]
    simp [List.getD_eq_getElem?_getD, hkn]
   rw [hd]
   by_cases he : l.getD k.toNat 0 = 0
   ·
    rw [br_neg (by simpa using he), w64_id (by omega), hrec (k + 1) (by omega) (by omega)]
    simp only [firstF, he, if_true]
    rw [show (k + 1).toNat = k.toNat + 1 by omega]
   ·
    rw [br_pos (by simpa using he)]
    simp only [firstF, he, if_false]
  ·
   rw [br_neg (by simpa using h)]
   rw [List.drop_eq_nil_of_le (by omega)]; rfl
 exact key
def okSleep (C S O I : Int) : Prop := (1 ≤ C ∧ C ≤ 20480) ∧ (0 ≤ S ∧ S ≤ C - 1) ∧ (1 ≤ O ∧ O ≤ C) ∧ 0 ≤ I ∧ I ≤ 20480
instance (C S O I : Int) : Decidable (okSleep C S O I) := by unfold okSleep; infer_instance
def sleepE (C S O I : Int) : Int := if okSleep C S O I then 0 else 2
def slB4 (C S O I : Int) : Bool := ((inB C 1 20480 && inB S 0 (w64 (C - 1))) && inB O 1 C) && inB I 0 20480
theorem slB4_eq {C S O I : Int} : slB4 C S O I = decide (okSleep C S O I) := by
 rw [Bool.eq_iff_iff, decide_eq_true_eq]
 unfold slB4 okSleep
 simp only [Bool.and_eq_true, inB_true]
 constructor
 ·
  rintro ⟨⟨⟨h1, h2⟩, h3⟩, h4⟩
  rw [w64_id (by omega)] at h2
  exact ⟨h1, h2, h3, h4⟩
 ·
  rintro ⟨h1, h2, h3, h4⟩
  rw [w64_id (by omega)]
  exact ⟨⟨⟨h1, h2⟩, h3⟩, h4⟩
theorem CheckSleep_eq (N : Nat) (C S O I : Int) : access_CheckSleep N C S O I = some (sleepE C S O I) := by
 have e : access_CheckSleep N C S O I = some (if slB4 C S O I = true then 0 else 2) := by
  unfold access_CheckSleep
  simp only [within_eq, unless_eq, bnd_val, grd_val, ite_and_false, slB4]
  rcases Bool.eq_false_or_eq_true (inB C 1 20480) with h1 | h1 <;> rcases Bool.eq_false_or_eq_true (inB S 0 (w64 (C - 1))) with h2 | h2 <;> rcases Bool.eq_false_or_eq_true (inB O 1 C) with h3 | h3 <;> rcases Bool.eq_false_or_eq_true (inB I 0 20480) with h4 | h4 <;> simp [h1, h2, h3, h4]
 rw [e, slB4_eq]
 simp only [decide_eq_true_eq, sleepE]
theorem CheckSleepR_eq (N : Nat) (C S O I : Int) : ref07_CheckSleep N C S O I = some (sleepE C S O I) := by
 have e : ref07_CheckSleep N C S O I = some (if slB4 C S O I = true then 0 else 2) := by
  unfold ref07_CheckSleep
  simp only [Within_eq, bnd_val, grd_val, ite_and_false, slB4]
  rcases Bool.eq_false_or_eq_true (inB C 1 20480) with h1 | h1 <;> rcases Bool.eq_false_or_eq_true (inB S 0 (w64 (C - 1))) with h2 | h2 <;> rcases Bool.eq_false_or_eq_true (inB O 1 C) with h3 | h3 <;> rcases Bool.eq_false_or_eq_true (inB I 0 20480) with h4 | h4 <;> simp [h1, h2, h3, h4]
 rw [e, slB4_eq]
 simp only [decide_eq_true_eq, sleepE]
def tickE (t : Int) : Int := if 0 ≤ t ∧ t ≤ 1000000000 then 0 else 2
theorem isTick_eq (N : Nat) (t : Int) : access_isTick N t = some (inB t 0 1000000000) := rfl
theorem tickErr_eq (N : Nat) (t : Int) : access_tickErr N t = some (tickE t) := by
 unfold access_tickErr
 simp only [isTick_eq, unless_eq, bnd_val, tickE, inB_true]
def ticksE (lo hi : Int) : Int := firstF [tickE lo, tickE hi, if lo ≤ hi then 0 else 9]
theorem ticksErr_eq {N : Nat} (hN : 10 ≤ N) (lo hi : Int) : access_ticksErr N lo hi = some (ticksE lo hi) := by
 unfold access_ticksErr
 simp only [tickErr_eq, unless_eq, bnd_val, decide_eq_true_eq]
 rw [first_eq (by simp; omega) (by simp)]
 rfl
def powE (a b c : Int) : Int := if (0 ≤ a ∧ a ≤ 1000) ∧ (0 ≤ b ∧ b ≤ 1000) ∧ 0 ≤ c ∧ c ≤ 1000 then 0 else 2
theorem powB {a b c : Int} : ((inB a 0 1000 && inB b 0 1000) && inB c 0 1000) = decide ((0 ≤ a ∧ a ≤ 1000) ∧ (0 ≤ b ∧ b ≤ 1000) ∧ 0 ≤ c ∧ c ≤ 1000) := by
 rw [Bool.eq_iff_iff]
 simp only [Bool.and_eq_true, inB_true, decide_eq_true_eq, and_assoc]
theorem PowersErr_eq (N : Nat) (a b c : Int) : ref07_PowersErr N a b c = some (powE a b c) := by
 have e : ref07_PowersErr N a b c = some (if ((inB a 0 1000 && inB b 0 1000) && inB c 0 1000) = true then 0 else 2) := by
  unfold ref07_PowersErr
  simp only [Within_eq, bnd_val, grd_val, br_val, ite_and_false]
  rcases Bool.eq_false_or_eq_true (inB a 0 1000) with h1 | h1 <;> rcases Bool.eq_false_or_eq_true (inB b 0 1000) with h2 | h2 <;> rcases Bool.eq_false_or_eq_true (inB c 0 1000) with h3 | h3 <;> simp [h1, h2, h3]
 rw [e, powB]
 simp only [decide_eq_true_eq, powE]
end
end Go.Sh

/-
 Phones that sleep: the loops of both sides.
-/
namespace Go.Sh
open Go.PW
noncomputable section
section
variable {N : Nat} {C S O I : Int}
theorem okSleep.pos (h : okSleep C S O I) : 0 < C := by have := h.1; omega
theorem tmodP {t C : Int} (hC : 0 < C) (ht : 0 ≤ t) : t.tmod C = t % C ∧ 0 ≤ t % C ∧ t % C < C := ⟨Int.tmod_eq_emod_of_nonneg ht, Int.emod_nonneg t (by omega), Int.emod_lt_of_pos t hC⟩
theorem tdivP {t C : Int} (hC : 0 < C) (ht : 0 ≤ t) : t.tdiv C = t / C ∧ 0 ≤ t / C ∧ t / C ≤ t := by
 refine ⟨Int.tdiv_eq_ediv_of_nonneg ht, Int.ediv_nonneg ht (by omega), ?_⟩
 exact Int.ediv_le_self C ht
theorem since_c (h : okSleep C S O I) {t : Int} (ht : 0 ≤ t ∧ t ≤ 2000000000) : access_sleep_since N C S O I t = some (sinceF C S t) := by
 obtain ⟨hC, hS, hO, hI⟩ := id h
 have h1 := tmodP (t := t) h.pos ht.1
 unfold access_sleep_since
 rw [chk_pos (by omega), chk_pos (by omega), w64_id (n := t.tmod C + C) (by omega), w64_id (by omega), since_eq h.pos (by omega) ht.1]
theorem on_c (h : okSleep C S O I) {t : Int} (ht : 0 ≤ t ∧ t ≤ 2000000000) : access_sleep_on N C S O I t = some (onF C S O t) := by
 unfold access_sleep_on
 rw [since_c h ht]; rfl
theorem mulO {a O C t : Int} (ha : 0 ≤ a) (hO : 0 ≤ O ∧ O ≤ C) (h : C * a ≤ t) : 0 ≤ a * O ∧ a * O ≤ t := by
 refine ⟨Int.mul_nonneg ha hO.1, ?_⟩
 have h1 : a * O ≤ a * C := Int.mul_le_mul_of_nonneg_left hO.2 ha
 rw [Int.mul_comm a C] at h1
 omega
theorem before_c (h : okSleep C S O I) (hN : 30000 ≤ N) {t : Int} (ht : 0 ≤ t ∧ t ≤ 1000000001) : access_sleep_before N C S O I t = some (cntF C S O t - cntF C S O 0) := by
 obtain ⟨hC, hS, hO, hI⟩ := id h
 have h1 := tmodP (t := t) h.pos ht.1
 have h2 := tdivP (t := t) h.pos ht.1
 have hd := dm (n := t) h.pos
 have hm := mulO (O := O) (C := C) (t := t) h2.2.1 (by omega) (by omega)
 unfold access_sleep_before
 rw [chk_pos (by omega), h2.1, w64_id (n := t / C) (by omega), w64_id (n := t / C * O) (by omega)]
 show chk (C ≠ 0) (rds (access_sleep_before.b1 N C S O I t fun n => some n) N (t / C * O, 0)) = _
 rw [chk_pos (by omega)]
 have key : rds (access_sleep_before.b1 N C S O I t fun n => some n) N (t / C * O, 0) = some (t / C * O + (cntF C S O (t % C) - cntF C S O 0)) := by
  refine rds_spec (fun s : Int × Int => (0 ≤ s.2 ∧ s.2 ≤ t % C) ∧ 0 ≤ s.1 ∧ s.1 + (t % C - s.2) ≤ 3000000000) (fun s => (t % C - s.2).toNat) (fun s => some (s.1 + (cntF C S O (t % C) - cntF C S O s.2))) (fun rec s hs hrec => ?_) N (t / C * O, 0) (by simp only; omega) (by simp only; omega)
  obtain ⟨n, u⟩ := s
  simp only at hs hrec ⊢
  unfold access_sleep_before.b1
  simp only [h1.1]
  by_cases hu : u < t % C
  ·
   rw [br_pos (by simpa using hu), on_c h (by omega)]
   have hcs := cnt_succ (S := S) (t := u) h.pos (show 0 ≤ O ∧ O ≤ C by omega)
   simp only [bnd_val]
   rw [w64_id (n := u + 1) (by omega)]
   by_cases ho : onF C S O u = true
   ·
    rw [br_pos ho, w64_id (n := n + 1) (by omega), hrec (n + 1, u + 1) (by simp only; omega) (by simp only; omega)]
    rw [if_pos ho] at hcs
    simp only [Option.some.injEq]; omega
   ·
    rw [br_neg (Bool.eq_false_iff.2 ho), hrec (n, u + 1) (by simp only; omega) (by simp only; omega)]
    rw [if_neg ho] at hcs
    simp only [Option.some.injEq]; omega
  ·
   rw [br_neg (by simpa using hu)]
   have : u = t % C := by omega
   subst this
   simp
 rw [key]
 have hp := cnt_per (S := S) (O := O) (t := t % C) (k := t / C) h.pos
 rw [show t % C + C * (t / C) = t by omega] at hp
 rw [hp, Int.mul_comm O]
 simp only [Option.some.injEq]; omega
def awakeF (C S O lo hi : Int) : Int := cntF C S O (hi + 1) - cntF C S O lo
theorem awake_bd (h : okSleep C S O I) {lo hi : Int} (hh : lo ≤ hi + 1) : 0 ≤ awakeF C S O lo hi ∧ awakeF C S O lo hi ≤ hi + 1 - lo := by
 obtain ⟨hC, hS, hO, hI⟩ := id h
 exact cnt_bd h.pos (by omega) (by omega)
theorem awakeIn_c (h : okSleep C S O I) (hN : 30000 ≤ N) {lo hi : Int} (hl : 0 ≤ lo ∧ lo ≤ 1000000000) (hh : 0 ≤ hi ∧ hi ≤ 1000000000) (hlh : lo ≤ hi) : access_sleep_awakeIn N C S O I lo hi = some (awakeF C S O lo hi) := by
 obtain ⟨hC, hS, hO, hI⟩ := id h
 unfold access_sleep_awakeIn
 rw [w64_id (n := hi + 1) (by omega), before_c h hN (by omega), before_c h hN (by omega)]
 simp only [bnd_val]
 have h1 := cnt_bd (S := S) (O := O) (a := 0) (b := hi + 1) h.pos (by omega) (by omega)
 have h2 := cnt_bd (S := S) (O := O) (a := 0) (b := lo) h.pos (by omega) (by omega)
 rw [w64_id (by omega)]
 simp only [Option.some.injEq, awakeF]; omega
theorem wakes_c (h : okSleep C S O I) {lo hi : Int} (hl : 0 ≤ lo ∧ lo ≤ 1000000000) (hh : 0 ≤ hi ∧ hi ≤ 1000000000) (hlh : lo ≤ hi) : access_sleep_wakes N C S O I lo hi = some (wakesF C S O lo hi) := by
 obtain ⟨hC, hS, hO, hI⟩ := id h
 have hs := since_bd (S := S) (t := lo) h.pos
 have ht := wakes_tail (S := S) (lo := lo) (hi := hi) h.pos hlh
 have key : ∀ n : Int, 0 ≤ n ∧ n ≤ 1 → br (O == C) (some n) (bnd (access_sleep_since N C S O I lo) fun x2 => br (decide (w64 (w64 (lo + C) - x2) ≤ hi)) (chk (C ≠ 0) <| some (w64 (n + w64 (w64 ((w64 (hi - w64 (w64 (lo + C) - x2))).tdiv C) + 1)))) (some n)) = some (n + if O < C then (hi - S) / C - (lo - S) / C else 0) := by
  intro n hn
  by_cases hOC : O = C
  · rw [br_pos (by simpa using hOC), if_neg (by omega), Int.add_zero]
  ·
   rw [br_neg (by simpa using hOC), if_pos (by omega), since_c h (by omega)]
   simp only [bnd_val]
   rw [w64_id (n := lo + C) (by omega), w64_id (n := lo + C - sinceF C S lo) (by omega)]
   by_cases hb : lo + C - sinceF C S lo ≤ hi
   ·
    rw [br_pos (by simpa using hb), chk_pos (by omega), w64_id (n := hi - (lo + C - sinceF C S lo)) (by omega)]
    have h2 := tdivP (t := hi - (lo + C - sinceF C S lo)) h.pos (by omega)
    rw [h2.1, w64_id (n := (hi - (lo + C - sinceF C S lo)) / C) (by omega), w64_id (n := (hi - (lo + C - sinceF C S lo)) / C + 1) (by omega), w64_id (by omega)]
    rw [if_pos hb] at ht
    rw [ht]
   ·
    rw [br_neg (by simpa using hb)]
    rw [if_neg hb] at ht
    rw [← ht, Int.add_zero]
 unfold access_sleep_wakes jn
 rw [on_c h (by omega)]
 simp only [bnd_val]
 unfold wakesF
 by_cases ho : onF C S O lo = true
 · rw [br_pos ho, if_pos ho]; exact key 1 (by omega)
 · rw [br_neg (Bool.eq_false_iff.2 ho), if_neg ho]; exact key 0 (by omega)
end
end
end Go.Sh

/-
 The laws of sleep: both sides agree; ranges are summed up.
-/
namespace Go.Sh
open Go.PW
noncomputable section
section
variable {N : Nat} {C S O I : Int}
theorem sleepE_ok (h : okSleep C S O I) : sleepE C S O I = 0 := if_pos h
theorem sleepE_bad (h : ¬ okSleep C S O I) : sleepE C S O I = 2 := if_neg h
theorem tickE_ok {t : Int} (h : 0 ≤ t ∧ t ≤ 1000000000) : tickE t = 0 := if_pos h
theorem NextAwake_c {t : Int} (hN : 10 ≤ N) (h : okSleep C S O I) (ht : 0 ≤ t ∧ t ≤ 1000000000) : access_NextAwake N C S O I t = some (nextF C S O t, 0) := by
 obtain ⟨hC, hS, hO, hI⟩ := id h
 have hs := since_bd (S := S) (t := t) h.pos
 unfold access_NextAwake
 simp only [CheckSleep_eq, tickErr_eq, bnd_val]
 rw [first_eq (by simp; omega) (by simp), sleepE_ok h, tickE_ok ht]
 simp only [firstF, if_true, bnd_val]
 rw [br_neg (by simp), on_c h (by omega)]
 simp only [bnd_val]
 unfold nextF
 by_cases ho : onF C S O t = true
 · rw [br_pos ho, if_pos ho]
 ·
  rw [br_neg (Bool.eq_false_iff.2 ho), if_neg ho, since_c h (by omega)]
  simp only [bnd_val]
  rw [w64_id (n := t + C) (by omega), w64_id (by omega)]
theorem ticks_ok {lo hi : Int} (h : ticksE lo hi = 0) : (0 ≤ lo ∧ lo ≤ 1000000000) ∧ (0 ≤ hi ∧ hi ≤ 1000000000) ∧ lo ≤ hi := by
 unfold ticksE tickE firstF firstF firstF firstF at h
 by_cases h1 : 0 ≤ lo ∧ lo ≤ 1000000000 <;> by_cases h2 : 0 ≤ hi ∧ hi ≤ 1000000000 <;> by_cases h3 : lo ≤ hi <;> simp_all
theorem ticks_of {lo hi : Int} (h1 : 0 ≤ lo ∧ lo ≤ 1000000000) (h2 : 0 ≤ hi ∧ hi ≤ 1000000000) (h3 : lo ≤ hi) : ticksE lo hi = 0 := by
 unfold ticksE
 rw [tickE_ok h1, tickE_ok h2, if_pos h3]; rfl
theorem AwakeIn_c {lo hi : Int} (hN : 30000 ≤ N) (h : okSleep C S O I) (ht : ticksE lo hi = 0) : access_AwakeIn N C S O I lo hi = some (awakeF C S O lo hi, 0) := by
 obtain ⟨h1, h2, h3⟩ := ticks_ok ht
 unfold access_AwakeIn
 simp only [CheckSleep_eq, ticksErr_eq (show 10 ≤ N by omega), bnd_val]
 rw [first_eq (by simp; omega) (by simp), sleepE_ok h, ht]
 simp only [firstF, if_true, bnd_val]
 rw [br_neg (by simp), awakeIn_c h hN h1 h2 h3]
 rfl
def enW (on wk lo hi a z w : Int) : Int := w64 ((w64 ((w64 (on * a)) + (w64 ((w64 ((w64 ((w64 (hi - lo)) + (1 : Int))) - on)) * z)))) + (w64 (wk * w)))
theorem isPow_eq (n : Int) : access_EnergyOf_1 N n = some (inB n 0 1000) := rfl
theorem Energy_c {lo hi a z w : Int} (hN : 30000 ≤ N) (h : okSleep C S O I) (ht : ticksE lo hi = 0) (hp0 : powE a z w = 0) : access_EnergyOf N C S O I lo hi a z w = some (enW (awakeF C S O lo hi) (wakesF C S O lo hi) lo hi a z w, 0) := by
 obtain ⟨h1, h2, h3⟩ := ticks_ok ht
 unfold access_EnergyOf
 simp only [CheckSleep_eq, ticksErr_eq (show 10 ≤ N by omega), bnd_val, isPow_eq, grd_val, unless_eq, ite_and_false]
 have hp : ((inB a 0 1000 && (inB a 0 1000 && inB z 0 1000)) && ((inB a 0 1000 && (inB a 0 1000 && inB z 0 1000)) && inB w 0 1000)) = ((inB a 0 1000 && inB z 0 1000) && inB w 0 1000) := by
  cases inB a 0 1000 <;> cases inB z 0 1000 <;> cases inB w 0 1000 <;> rfl
 rw [hp, powB]
 simp only [decide_eq_true_eq]
 rw [first_eq (by simp; omega) (by simp), show (if (0 ≤ a ∧ a ≤ 1000) ∧ (0 ≤ z ∧ z ≤ 1000) ∧ 0 ≤ w ∧ w ≤ 1000 then (0 : Int) else 2) = powE a z w from rfl, sleepE_ok h, ht, hp0]
 simp only [firstF, if_true, bnd_val]
 rw [br_neg (by simp), awakeIn_c h hN h1 h2 h3, wakes_c h h1 h2 h3]
 rfl
end
end
end Go.Sh

/-
 The law of sums.
-/
namespace Go.Sh
open Go.PW
noncomputable section
section
variable {N : Nat} {C S O I : Int}
def enF (on wk lo hi a z w : Int) : Int := on * a + (hi - lo + 1 - on) * z + wk * w
theorem mul_le {a b A B : Int} (ha : 0 ≤ a ∧ a ≤ A) (hb : 0 ≤ b ∧ b ≤ B) : 0 ≤ a * b ∧ a * b ≤ A * B :=
 ⟨Int.mul_nonneg ha.1 hb.1, Int.mul_le_mul ha.2 hb.2 hb.1 (by omega)⟩
theorem enW_eq {on wk lo hi a z w : Int} (hl : 0 ≤ lo ∧ lo ≤ 1000000000) (hh : 0 ≤ hi ∧ hi ≤ 1000000000) (hlh : lo ≤ hi) (hon : 0 ≤ on ∧ on ≤ hi + 1 - lo) (hwk : 0 ≤ wk ∧ wk ≤ hi - lo + 2) (ha : 0 ≤ a ∧ a ≤ 1000) (hz : 0 ≤ z ∧ z ≤ 1000) (hw : 0 ≤ w ∧ w ≤ 1000) :
  enW on wk lo hi a z w = enF on wk lo hi a z w ∧ 0 ≤ enF on wk lo hi a z w ∧ enF on wk lo hi a z w ≤ 10000000000000 := by
 have h1 := mul_le (A := 1000000001) (B := 1000) (show 0 ≤ on ∧ on ≤ 1000000001 by omega) ha
 have h2 := mul_le (A := 1000000001) (B := 1000) (show 0 ≤ hi - lo + 1 - on ∧ hi - lo + 1 - on ≤ 1000000001 by omega) hz
 have h3 := mul_le (A := 1000000002) (B := 1000) (show 0 ≤ wk ∧ wk ≤ 1000000002 by omega) hw
 unfold enW enF
 rw [w64_id (n := on * a) (by omega), w64_id (n := hi - lo) (by omega), w64_id (n := hi - lo + 1) (by omega), w64_id (n := hi - lo + 1 - on) (by omega), w64_id (n := (hi - lo + 1 - on) * z) (by omega), w64_id (n := wk * w) (by omega),
  w64_id (n := on * a + (hi - lo + 1 - on) * z) (by omega), w64_id (by omega)]
 exact ⟨rfl, by omega, by omega⟩
theorem en_sum {o1 o2 k1 k2 k lo mid hi a z w : Int} (hk : k1 + k2 = k ∨ k1 + k2 = k + 1) : enF o1 k1 lo mid a z w + enF o2 k2 (mid + 1) hi a z w = enF (o1 + o2) k lo hi a z w ∨ enF o1 k1 lo mid a z w + enF o2 k2 (mid + 1) hi a z w = enF (o1 + o2) k lo hi a z w + w := by
 unfold enF
 have e1 : (o1 + o2) * a = o1 * a + o2 * a := Int.add_mul ..
 have e2 : (hi - lo + 1 - (o1 + o2)) * z = (mid - lo + 1 - o1) * z + (hi - (mid + 1) + 1 - o2) * z := by rw [← Int.add_mul]; congr 1; omega
 rcases hk with h | h
 ·
  left
  have e3 : k * w = k1 * w + k2 * w := by rw [← h, Int.add_mul]
  omega
 ·
  right
  have e3 : k1 * w + k2 * w = k * w + w := by rw [← Int.add_mul, h, Int.add_mul, Int.one_mul]
  omega
theorem law_AccessSums (hN : 30000 ≤ N) (c0 c1 c2 a z w : Int) : law07_AccessSums N C S O I c0 c1 c2 a z w = some true := by
 unfold law07_AccessSums
 simp only [law07_awake, bnd_val, Bool.not_true, br_false, CheckSleepR_eq, PowersErr_eq, Within_eq, grd_val]
 by_cases h : okSleep C S O I
 rotate_left
 · rw [br_pos (by simp [sleepE_bad h])]
 by_cases hp : powE a z w = 0
 rotate_left
 · rw [br_pos (by simp [sleepE_ok h, hp])]
 by_cases h01 : inB c0 0 c1 = true
 rotate_left
 · rw [br_pos (by simp [sleepE_ok h, hp, h01])]
 by_cases h2 : inB c2 0 1000000000 = true
 rotate_left
 · rw [br_pos (by simp [sleepE_ok h, hp, h01, h2])]
 by_cases h12 : c1 ≥ c2
 · rw [br_pos (by simp [h12])]
 rw [br_neg (by simp [sleepE_ok h, hp, h01, h2, Int.not_le.1 h12])]
 have b01 := inB_true.1 h01
 have b2 := inB_true.1 h2
 obtain ⟨hC, hS, hO, hI⟩ := id h
 have hpp : (0 ≤ a ∧ a ≤ 1000) ∧ (0 ≤ z ∧ z ≤ 1000) ∧ 0 ≤ w ∧ w ≤ 1000 := by
  unfold powE at hp
  split at hp
  · assumption
  · cases hp
 have t1 := ticks_of (lo := c0) (hi := c1) (by omega) (by omega) (by omega)
 have t2 := ticks_of (lo := c1 + 1) (hi := c2) (by omega) (by omega) (by omega)
 have t3 := ticks_of (lo := c0) (hi := c2) (by omega) (by omega) (by omega)
 have a1 := awake_bd h (lo := c0) (hi := c1) (by omega)
 have a2 := awake_bd h (lo := c1 + 1) (hi := c2) (by omega)
 have a3 := awake_bd h (lo := c0) (hi := c2) (by omega)
 have w1 := wakes_bd (S := S) (O := O) (lo := c0) (hi := c1) h.pos (by omega)
 have w2 := wakes_bd (S := S) (O := O) (lo := c1 + 1) (hi := c2) h.pos (by omega)
 have w3 := wakes_bd (S := S) (O := O) (lo := c0) (hi := c2) h.pos (by omega)
 have e1 := enW_eq (on := awakeF C S O c0 c1) (wk := wakesF C S O c0 c1) (lo := c0) (hi := c1) (by omega) (by omega) (by omega) a1 w1 hpp.1 hpp.2.1 hpp.2.2
 have e2 := enW_eq (on := awakeF C S O (c1 + 1) c2) (wk := wakesF C S O (c1 + 1) c2) (lo := c1 + 1) (hi := c2) (by omega) (by omega) (by omega) a2 w2 hpp.1 hpp.2.1 hpp.2.2
 have e3 := enW_eq (on := awakeF C S O c0 c2) (wk := wakesF C S O c0 c2) (lo := c0) (hi := c2) (by omega) (by omega) (by omega) a3 w3 hpp.1 hpp.2.1 hpp.2.2
 have hsum : awakeF C S O c0 c1 + awakeF C S O (c1 + 1) c2 = awakeF C S O c0 c2 := by unfold awakeF; omega
 have hen := en_sum (o1 := awakeF C S O c0 c1) (o2 := awakeF C S O (c1 + 1) c2) (lo := c0) (mid := c1) (hi := c2) (a := a) (z := z) (w := w) (wakes_sum (S := S) (O := O) (a := c0) (b := c1) (c := c2) h.pos hO (by omega) (by omega))
 rw [hsum] at hen
 rw [w64_id (n := c1 + 1) (by omega), AwakeIn_c hN h t1, AwakeIn_c hN h t2, AwakeIn_c hN h t3, Energy_c hN h t1 hp, Energy_c hN h t2 hp, Energy_c hN h t3 hp, e1.1, e2.1, e3.1]
 simp only [bnd_val]
 rw [br_neg (by simp), w64_id (n := awakeF C S O c0 c1 + awakeF C S O (c1 + 1) c2) (by omega), hsum, w64_id (n := enF (awakeF C S O c0 c1) (wakesF C S O c0 c1) c0 c1 a z w + enF (awakeF C S O (c1 + 1) c2) (wakesF C S O (c1 + 1) c2) (c1 + 1) c2 a z w) (by omega), w64_id (n := enF (awakeF C S O c0 c2) (wakesF C S O c0 c2) c0 c2 a z w + w) (by omega)]
 rw [br_neg (by rcases hen with e | e <;> simp [e]), NextAwake_c (by omega) h (by omega)]
 simp only [bnd_val]
 have hnb := next_bd (S := S) (t := c1 + 1) h.pos hO.1
 rw [w64_id (n := c1 + C) (by omega), br_neg (by simp; omega)]
 have hoff := cnt_same (S := S) (O := O) h.pos (by omega) (c1 + 1)
 by_cases hg : nextF C S O (c1 + 1) > c2
 ·
  rw [br_pos (by simpa using hg)]
  have := hoff (c2 + 1 - (c1 + 1)).toNat fun k k1 k2 => next_off h.pos k1 (by omega)
  rw [show c1 + 1 + ((c2 + 1 - (c1 + 1)).toNat : Int) = c2 + 1 by omega] at this
  have hz : awakeF C S O (c1 + 1) c2 = 0 := by unfold awakeF; omega
  rw [hz]; rfl
 ·
  rw [br_neg (by simpa using hg), AwakeIn_c hN h (ticks_of (by omega) (by omega) (by omega))]
  simp only [bnd_val]
  have h1 := hoff (nextF C S O (c1 + 1) - (c1 + 1)).toNat fun k k1 k2 => next_off h.pos k1 (by omega)
  rw [show c1 + 1 + ((nextF C S O (c1 + 1) - (c1 + 1)).toNat : Int) = nextF C S O (c1 + 1) by omega] at h1
  have h2 := cnt_succ (S := S) (O := O) (t := nextF C S O (c1 + 1)) h.pos (by omega)
  rw [if_pos (next_on h.pos hO.1)] at h2
  have hz : awakeF C S O (c1 + 1) (nextF C S O (c1 + 1)) = 1 := by unfold awakeF; omega
  rw [hz]; rfl
end
end
end Go.Sh
