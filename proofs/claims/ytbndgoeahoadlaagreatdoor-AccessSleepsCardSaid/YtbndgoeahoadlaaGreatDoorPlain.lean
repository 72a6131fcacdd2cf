/-
 Phones that are on in cycles: how often, and when next. Plain numbers.
-/
import Derived.Test.YtbndgoeahoadlaaGreatDoorPlA
import Derived.Test.YtbndgoeahoadlaaGreatDoorAsS
set_option linter.all false
namespace Go.Sh
open Go.PW

theorem mod_eq {n b : Int} (hb : 0 < b) : (if n.tmod b < 0 then n.tmod b + b else n.tmod b) = n % b := by
 have h1 := Int.mul_tdiv_add_tmod n b
 have h2 := Int.tmod_lt_of_pos n hb
 have h3 := Int.lt_tmod_of_pos n hb
 split
 ·
  rename_i h
  refine ((Int.ediv_emod_unique hb (r := n.tmod b + b) (q := n.tdiv b - 1)).2 ⟨?_, by omega, by omega⟩).2.symm
  rw [Int.mul_sub, Int.mul_one]; omega
 · exact ((Int.ediv_emod_unique hb (r := n.tmod b) (q := n.tdiv b)).2 ⟨by omega, by omega, by omega⟩).2.symm
theorem floor_eq2 {a b : Int} (hb : 0 < b) : (if a.tmod b < 0 then a.tdiv b - 1 else a.tdiv b) = a / b := by
 have h1 := Int.mul_tdiv_add_tmod a b
 have h2 := Int.tmod_lt_of_pos a hb
 have h3 := Int.lt_tmod_of_pos a hb
 split
 ·
  rename_i h
  refine ((Int.ediv_emod_unique hb (r := a.tmod b + b) (q := a.tdiv b - 1)).2 ⟨?_, by omega, by omega⟩).1.symm
  rw [Int.mul_sub, Int.mul_one]; omega
 · exact ((Int.ediv_emod_unique hb (r := a.tmod b) (q := a.tdiv b)).2 ⟨by omega, by omega, by omega⟩).1.symm
theorem dm {n b : Int} (hb : 0 < b) : n = b * (n / b) + n % b ∧ 0 ≤ n % b ∧ n % b < b :=
 ⟨(Int.mul_ediv_add_emod n b).symm, Int.emod_nonneg n (by omega), Int.emod_lt_of_pos n hb⟩
theorem dm_of {n b q r : Int} (hb : 0 < b) (h : n = b * q + r) (h0 : 0 ≤ r) (h1 : r < b) : n / b = q ∧ n % b = r :=
 (Int.ediv_emod_unique hb).2 ⟨by omega, h0, h1⟩
theorem mod_add_mul {x b k : Int} : (x + b * k) % b = x % b := Int.add_mul_emod_self_left x b k

def sinceF (C S t : Int) : Int := (t - S) % C
def onF (C S O t : Int) : Bool := decide (sinceF C S t < O)
theorem since_eq {C S t : Int} (hC : 0 < C) (hS : 0 ≤ S ∧ S < C) (ht : 0 ≤ t) : (t.tmod C + C - S).tmod C = sinceF C S t := by
 have h := dm (n := t) hC
 rw [Int.tmod_eq_emod_of_nonneg ht, Int.tmod_eq_emod_of_nonneg (by omega)]
 unfold sinceF
 have e : t % C + C - S = (t - S) + C * (1 - t / C) := by rw [Int.mul_sub]; omega
 rw [e, mod_add_mul]
theorem since_bd {C S t : Int} (hC : 0 < C) : 0 ≤ sinceF C S t ∧ sinceF C S t < C := ⟨Int.emod_nonneg _ (by omega), Int.emod_lt_of_pos _ hC⟩
theorem since_per {C S t k : Int} : sinceF C S (t + C * k) = sinceF C S t := by
 unfold sinceF
 rw [show t + C * k - S = (t - S) + C * k by omega, mod_add_mul]
theorem since_succ {C S t : Int} (hC : 0 < C) : sinceF C S (t + 1) = if sinceF C S t + 1 < C then sinceF C S t + 1 else 0 := by
 unfold sinceF
 have h := dm (n := t - S) hC
 split
 · exact (dm_of hC (q := (t - S) / C) (by omega) (by omega) (by omega)).2
 · exact (dm_of hC (q := (t - S) / C + 1) (by rw [Int.mul_add]; omega) (by omega) (by omega)).2
def cntF (C S O t : Int) : Int := O * ((t - S) / C) + (if sinceF C S t < O then sinceF C S t else O)
theorem cnt_succ {C S O t : Int} (hC : 0 < C) (hO : 0 ≤ O ∧ O ≤ C) : cntF C S O (t + 1) = cntF C S O t + (if onF C S O t = true then 1 else 0) := by
 have h := dm (n := t - S) hC
 have hs := since_succ (S := S) (t := t) hC
 unfold cntF onF
 simp only [decide_eq_true_eq]
 by_cases h1 : sinceF C S t + 1 < C
 ·
  rw [if_pos h1] at hs
  have hq : (t + 1 - S) / C = (t - S) / C := (dm_of hC (q := (t - S) / C) (r := sinceF C S t + 1) (by unfold sinceF; omega) (by unfold sinceF; omega) h1).1
  rw [hs, hq]
  generalize O * ((t - S) / C) = z
  split <;> split <;> omega
 ·
  rw [if_neg h1] at hs
  have hb := since_bd (S := S) (t := t) hC
  have hq : (t + 1 - S) / C = (t - S) / C + 1 := (dm_of hC (q := (t - S) / C + 1) (r := 0) (by unfold sinceF at h1 hb; rw [Int.mul_add]; omega) (by omega) hC).1
  rw [hs, hq, Int.mul_add, Int.mul_one]
  generalize O * ((t - S) / C) = z
  split <;> split <;> omega
theorem cnt_per {C S O t k : Int} (hC : 0 < C) : cntF C S O (t + C * k) = cntF C S O t + O * k := by
 unfold cntF
 rw [since_per, show t + C * k - S = (t - S) + C * k by omega, Int.add_mul_ediv_left _ _ (by omega), Int.mul_add]
 omega
theorem cnt_mono {C S O : Int} (hC : 0 < C) (hO : 0 ≤ O ∧ O ≤ C) (t : Int) : ∀ n : Nat, cntF C S O t ≤ cntF C S O (t + n) ∧ cntF C S O (t + n) ≤ cntF C S O t + n
 | 0 => by simp
 | n + 1 => by
  have ih := cnt_mono (S := S) hC hO t n
  have := cnt_succ (S := S) (O := O) (t := t + n) hC hO
  rw [show t + ((n + 1 : Nat) : Int) = t + n + 1 by omega, this]
  split <;> omega
theorem cnt_bd {C S O a b : Int} (hC : 0 < C) (hO : 0 ≤ O ∧ O ≤ C) (h : a ≤ b) : 0 ≤ cntF C S O b - cntF C S O a ∧ cntF C S O b - cntF C S O a ≤ b - a := by
 have := cnt_mono (S := S) hC hO a (b - a).toNat
 rw [show a + ((b - a).toNat : Int) = b by omega] at this
 omega
def nextF (C S O t : Int) : Int := if onF C S O t = true then t else t + C - sinceF C S t
theorem since_add {C S t : Int} (hC : 0 < C) : ∀ n : Nat, (n : Int) + sinceF C S t < C → sinceF C S (t + n) = sinceF C S t + n
 | 0, _ => by simp
 | n + 1, h => by
  have ih := since_add (S := S) (t := t) hC n (by omega)
  rw [show t + ((n + 1 : Nat) : Int) = t + n + 1 by omega, since_succ hC, ih, if_pos (by omega)]
  omega
theorem next_on {C S O t : Int} (hC : 0 < C) (hO : 1 ≤ O) : onF C S O (nextF C S O t) = true := by
 unfold nextF
 split
 · assumption
 ·
  have hb := since_bd (S := S) (t := t) hC
  have h1 := since_add (S := S) (t := t) hC (C - 1 - sinceF C S t).toNat (by omega)
  have h2 := since_succ (S := S) (t := t + ((C - 1 - sinceF C S t).toNat : Int)) hC
  rw [h1, if_neg (by omega), show t + ((C - 1 - sinceF C S t).toNat : Int) + 1 = t + C - sinceF C S t by omega] at h2
  unfold onF
  rw [h2]
  simp; omega
theorem next_bd {C S O t : Int} (hC : 0 < C) (hO : 1 ≤ O) : t ≤ nextF C S O t ∧ nextF C S O t < t + C := by
 have hb := since_bd (S := S) (t := t) hC
 unfold nextF onF
 simp only [decide_eq_true_eq]
 split <;> omega
theorem next_off {C S O t k : Int} (hC : 0 < C) (h1 : t ≤ k) (h2 : k < nextF C S O t) : onF C S O k = false := by
 unfold nextF at h2
 split at h2
 · omega
 ·
  rename_i h
  have hb := since_bd (S := S) (t := t) hC
  have h3 := since_add (S := S) (t := t) hC (k - t).toNat (by omega)
  rw [show t + ((k - t).toNat : Int) = k by omega] at h3
  unfold onF at h ⊢
  rw [h3]
  simp only [decide_eq_true_eq, decide_eq_false_iff_not] at h ⊢
  omega
def wakesF (C S O lo hi : Int) : Int := (if onF C S O lo = true then 1 else 0) + (if O < C then (hi - S) / C - (lo - S) / C else 0)
theorem begin_eq {C S lo : Int} (hC : 0 < C) : lo + C - sinceF C S lo = S + C * ((lo - S) / C + 1) := by
 have h := dm (n := lo - S) hC
 unfold sinceF
 rw [Int.mul_add]; omega
theorem div_mono {C a b : Int} (hC : 0 < C) (h : a ≤ b) : a / C ≤ b / C := Int.ediv_le_ediv hC h
theorem wakes_tail {C S lo hi : Int} (hC : 0 < C) (h : lo ≤ hi) : (if lo + C - sinceF C S lo ≤ hi then (hi - (lo + C - sinceF C S lo)) / C + 1 else 0) = (hi - S) / C - (lo - S) / C := by
 rw [begin_eq hC]
 have hm := div_mono (a := lo - S) (b := hi - S) hC (by omega)
 have hh := dm (n := hi - S) hC
 split
 ·
  rename_i hb
  have : (hi - (S + C * ((lo - S) / C + 1))) = (hi - S) + C * (-((lo - S) / C + 1)) := by rw [Int.mul_neg]; omega
  rw [this, Int.add_mul_ediv_left _ _ (by omega)]
  omega
 ·
  rename_i hb
  have : (hi - S) / C < (lo - S) / C + 1 := Int.ediv_lt_of_lt_mul hC (by rw [Int.mul_comm]; omega)
  omega
theorem wakes_bd {C S O lo hi : Int} (hC : 0 < C) (h : lo ≤ hi) : 0 ≤ wakesF C S O lo hi ∧ wakesF C S O lo hi ≤ hi - lo + 2 := by
 unfold wakesF
 have h1 := div_mono (a := lo - S) (b := hi - S) hC (by omega)
 have h2 : (hi - S) / C ≤ (lo - S) / C + (hi - lo) := by
  have e : hi - S = (lo - S) + (hi - lo) := by omega
  have a1 := dm (n := lo - S) hC
  have a2 := dm (n := hi - S) hC
  rcases Int.lt_or_le ((lo - S) / C + (hi - lo)) ((hi - S) / C) with hlt | hle
  ·
   have hm : C * ((lo - S) / C + (hi - lo) + 1) ≤ C * ((hi - S) / C) := Int.mul_le_mul_of_nonneg_left (by omega) (by omega)
   rw [Int.mul_add, Int.mul_add, Int.mul_one] at hm
   have hk : 1 * (hi - lo) ≤ C * (hi - lo) := Int.mul_le_mul_of_nonneg_right (by omega) (by omega)
   omega
  · exact hle
 split <;> split <;> omega
end Go.Sh

/-
 Occasions: the next one of a frame and a subframe. Plain numbers.
-/
namespace Go.Sh
open Go.PW

end Go.Sh

/-
 Phones that sleep: what the functions of both sides come to.
-/
namespace Go.Sh
open Go.PW
noncomputable section

theorem grd_val {α : Type} (g : Bool) (d b : α) : grd g d (some b) = some (if g = true then b else d) := by unfold grd; split <;> rfl
theorem br_val {α : Type} (g : Bool) (a b : α) : br g (some a) (some b) = some (if g = true then a else b) := by unfold br; split <;> rfl
theorem ite_and_false (g b : Bool) : (if g = true then b else false) = (g && b) := by cases g <;> rfl
def inB (n lo hi : Int) : Bool := decide (lo ≤ n) && decide (n ≤ hi)
theorem inB_true {n lo hi : Int} : inB n lo hi = true ↔ lo ≤ n ∧ n ≤ hi := by simp [inB]
theorem within_eq (N : Nat) (n lo hi : Int) : access_within N n lo hi = some (inB n lo hi) := rfl
theorem Within_eq (N : Nat) (n lo hi : Int) : base_Within N n lo hi = some (inB n lo hi) := rfl
theorem unless_eq (N : Nat) (b : Bool) (e : Int) : access_unless N b e = some (if b = true then 0 else e) := br_val b 0 e
def firstF : List Int → Int
 | [] => 0
 | e :: l => if e = 0 then firstF l else e
theorem first_eq {N : Nat} {l : List Int} (hl : l.length < N) (hb : l.length ≤ 1000) : access_first N l = some (firstF l) := by
 have key : rds (access_first.b1 N l fun _ => some 0) N (0 : Int) = some (firstF (l.drop (0 : Int).toNat)) := by
  refine rds_spec (fun k : Int => 0 ≤ k ∧ k ≤ l.length) (fun k => l.length - k.toNat) (fun k => some (firstF (l.drop k.toNat))) (fun rec k hk hrec => ?_) N 0 (by omega) (by simp; omega)
  unfold access_first.b1
  by_cases h : k < (l.length : Int)
  ·
   rw [br_pos (by simpa using h), chk_pos (by omega)]
   have hkn : k.toNat < l.length := by omega
   have hd : l.drop k.toNat = l.getD k.toNat 0 :: l.drop (k.toNat + 1) := by
    rw [List.drop_eq_getElem_cons hkn]
    simp [List.getD_eq_getElem?_getD, hkn]
   rw [hd]
   by_cases he : l.getD k.toNat 0 = 0
   ·
    rw [br_neg (by simpa using he), w64_id (by omega), hrec (k + 1) (by omega) (by omega)]
    simp only [firstF, he, if_true]
    rw [show (k + 1).toNat = k.toNat + 1 by omega]
   ·
    rw [br_pos (by simpa using he)]
    simp only [firstF, he, if_false]
  ·
   rw [br_neg (by simpa using h)]
   rw [List.drop_eq_nil_of_le (by omega)]; rfl
 exact key
def okSleep (C S O I : Int) : Prop := (1 ≤ C ∧ C ≤ 20480) ∧ (0 ≤ S ∧ S ≤ C - 1) ∧ (1 ≤ O ∧ O ≤ C) ∧ 0 ≤ I ∧ I ≤ 20480
instance (C S O I : Int) : Decidable (okSleep C S O I) := by unfold okSleep; infer_instance
def sleepE (C S O I : Int) : Int := if okSleep C S O I then 0 else 2
def slB4 (C S O I : Int) : Bool := ((inB C 1 20480 && inB S 0 (w64 (C - 1))) && inB O 1 C) && inB I 0 20480
theorem slB4_eq {C S O I : Int} : slB4 C S O I = decide (okSleep C S O I) := by
 rw [Bool.eq_iff_iff, decide_eq_true_eq]
 unfold slB4 okSleep
 simp only [Bool.and_eq_true, inB_true]
 constructor
 ·
  rintro ⟨⟨⟨h1, h2⟩, h3⟩, h4⟩
  rw [w64_id (by omega)] at h2
  exact ⟨h1, h2, h3, h4⟩
 ·
  rintro ⟨h1, h2, h3, h4⟩
  rw [w64_id (by omega)]
  exact ⟨⟨⟨h1, h2⟩, h3⟩, h4⟩
theorem CheckSleep_eq (N : Nat) (C S O I : Int) : access_CheckSleep N C S O I = some (sleepE C S O I) := by
 have e : access_CheckSleep N C S O I = some (if slB4 C S O I = true then 0 else 2) := by
  unfold access_CheckSleep
  simp only [within_eq, unless_eq, bnd_val, grd_val, ite_and_false, slB4]
  rcases Bool.eq_false_or_eq_true (inB C 1 20480) with h1 | h1 <;> rcases Bool.eq_false_or_eq_true (inB S 0 (w64 (C - 1))) with h2 | h2 <;> rcases Bool.eq_false_or_eq_true (inB O 1 C) with h3 | h3 <;> rcases Bool.eq_false_or_eq_true (inB I 0 20480) with h4 | h4 <;> simp [h1, h2, h3, h4]
 rw [e, slB4_eq]
 simp only [decide_eq_true_eq, sleepE]
theorem CheckSleepR_eq (N : Nat) (C S O I : Int) : ref07_CheckSleep N C S O I = some (sleepE C S O I) := by
 have e : ref07_CheckSleep N C S O I = some (if slB4 C S O I = true then 0 else 2) := by
  unfold ref07_CheckSleep
  simp only [Within_eq, bnd_val, grd_val, ite_and_false, slB4]
  rcases Bool.eq_false_or_eq_true (inB C 1 20480) with h1 | h1 <;> rcases Bool.eq_false_or_eq_true (inB S 0 (w64 (C - 1))) with h2 | h2 <;> rcases Bool.eq_false_or_eq_true (inB O 1 C) with h3 | h3 <;> rcases Bool.eq_false_or_eq_true (inB I 0 20480) with h4 | h4 <;> simp [h1, h2, h3, h4]
 rw [e, slB4_eq]
 simp only [decide_eq_true_eq, sleepE]
def tickE (t : Int) : Int := if 0 ≤ t ∧ t ≤ 1000000000 then 0 else 2
theorem isTick_eq (N : Nat) (t : Int) : access_isTick N t = some (inB t 0 1000000000) := rfl
theorem tickErr_eq (N : Nat) (t : Int) : access_tickErr N t = some (tickE t) := by
 unfold access_tickErr
 simp only [isTick_eq, unless_eq, bnd_val, tickE, inB_true]
theorem TickErr_eq (N : Nat) (t : Int) : ref07_TickErr N t = some (tickE t) := by
 unfold ref07_TickErr
 simp only [Within_eq, bnd_val, br_val, tickE]
 by_cases h : 0 ≤ t ∧ t ≤ 1000000000
 · rw [if_pos h, inB_true.2 h]; rfl
 · rw [if_neg h, Bool.eq_false_iff.2 (fun e => h (inB_true.1 e))]; rfl
def ticksE (lo hi : Int) : Int := firstF [tickE lo, tickE hi, if lo ≤ hi then 0 else 9]
theorem ticksErr_eq {N : Nat} (hN : 10 ≤ N) (lo hi : Int) : access_ticksErr N lo hi = some (ticksE lo hi) := by
 unfold access_ticksErr
 simp only [tickErr_eq, unless_eq, bnd_val, decide_eq_true_eq]
 rw [first_eq (by simp; omega) (by simp)]
 rfl
theorem TicksErr_eq (N : Nat) (lo hi : Int) : ref07_TicksErr N lo hi = some (ticksE lo hi) := by
 unfold ref07_TicksErr
 simp only [TickErr_eq, bnd_val, grd_val, br_val, ticksE, firstF]
 unfold tickE
 by_cases h1 : 0 ≤ lo ∧ lo ≤ 1000000000 <;> by_cases h2 : 0 ≤ hi ∧ hi ≤ 1000000000 <;> by_cases h3 : lo ≤ hi <;> simp [h1, h2, h3, Int.not_lt, Int.not_le]
 all_goals omega
def powE (a b c : Int) : Int := if (0 ≤ a ∧ a ≤ 1000) ∧ (0 ≤ b ∧ b ≤ 1000) ∧ 0 ≤ c ∧ c ≤ 1000 then 0 else 2
theorem powB {a b c : Int} : ((inB a 0 1000 && inB b 0 1000) && inB c 0 1000) = decide ((0 ≤ a ∧ a ≤ 1000) ∧ (0 ≤ b ∧ b ≤ 1000) ∧ 0 ≤ c ∧ c ≤ 1000) := by
 rw [Bool.eq_iff_iff]
 simp only [Bool.and_eq_true, inB_true, decide_eq_true_eq, and_assoc]
theorem PowersErr_eq (N : Nat) (a b c : Int) : ref07_PowersErr N a b c = some (powE a b c) := by
 have e : ref07_PowersErr N a b c = some (if ((inB a 0 1000 && inB b 0 1000) && inB c 0 1000) = true then 0 else 2) := by
  unfold ref07_PowersErr
  simp only [Within_eq, bnd_val, grd_val, br_val, ite_and_false]
  rcases Bool.eq_false_or_eq_true (inB a 0 1000) with h1 | h1 <;> rcases Bool.eq_false_or_eq_true (inB b 0 1000) with h2 | h2 <;> rcases Bool.eq_false_or_eq_true (inB c 0 1000) with h3 | h3 <;> simp [h1, h2, h3]
 rw [e, powB]
 simp only [decide_eq_true_eq, powE]
end
end Go.Sh

/-
 Phones that sleep: the loops of both sides.
-/
namespace Go.Sh
open Go.PW
noncomputable section
section
variable {N : Nat} {C S O I : Int}
theorem okSleep.pos (h : okSleep C S O I) : 0 < C := by have := h.1; omega
theorem tmodP {t C : Int} (hC : 0 < C) (ht : 0 ≤ t) : t.tmod C = t % C ∧ 0 ≤ t % C ∧ t % C < C := ⟨Int.tmod_eq_emod_of_nonneg ht, Int.emod_nonneg t (by omega), Int.emod_lt_of_pos t hC⟩
theorem tdivP {t C : Int} (hC : 0 < C) (ht : 0 ≤ t) : t.tdiv C = t / C ∧ 0 ≤ t / C ∧ t / C ≤ t := by
 refine ⟨Int.tdiv_eq_ediv_of_nonneg ht, Int.ediv_nonneg ht (by omega), ?_⟩
 exact Int.ediv_le_self C ht
theorem since_c (h : okSleep C S O I) {t : Int} (ht : 0 ≤ t ∧ t ≤ 2000000000) : access_sleep_since N C S O I t = some (sinceF C S t) := by
 obtain ⟨hC, hS, hO, hI⟩ := id h
 have h1 := tmodP (t := t) h.pos ht.1
 unfold access_sleep_since
 rw [chk_pos (by omega), chk_pos (by omega), w64_id (n := t.tmod C + C) (by omega), w64_id (by omega), since_eq h.pos (by omega) ht.1]
theorem on_c (h : okSleep C S O I) {t : Int} (ht : 0 ≤ t ∧ t ≤ 2000000000) : access_sleep_on N C S O I t = some (onF C S O t) := by
 unfold access_sleep_on
 rw [since_c h ht]; rfl
theorem Mod_eq {n b : Int} (hb : 0 < b) (hn : -4611686018427387904 ≤ n ∧ n ≤ 4611686018427387904) (hbb : b ≤ 4611686018427387904) : base_Mod N n b = some (n % b) := by
 unfold base_Mod
 have h2 := Int.tmod_lt_of_pos n hb
 have h3 := Int.lt_tmod_of_pos n hb
 rw [chk_pos (by omega), w64_id (by omega), br_val, ← mod_eq hb]
 simp only [decide_eq_true_eq]
theorem On_c (h : okSleep C S O I) {t : Int} (ht : -100000 ≤ t ∧ t ≤ 2000000000) : ref07_On N C S O I t = some (onF C S O t) := by
 obtain ⟨hC, hS, hO, hI⟩ := id h
 unfold ref07_On
 rw [w64_id (by omega), Mod_eq h.pos (by omega) (by omega)]
 rfl
theorem mulO {a O C t : Int} (ha : 0 ≤ a) (hO : 0 ≤ O ∧ O ≤ C) (h : C * a ≤ t) : 0 ≤ a * O ∧ a * O ≤ t := by
 refine ⟨Int.mul_nonneg ha hO.1, ?_⟩
 have h1 : a * O ≤ a * C := Int.mul_le_mul_of_nonneg_left hO.2 ha
 rw [Int.mul_comm a C] at h1
 omega
theorem before_c (h : okSleep C S O I) (hN : 30000 ≤ N) {t : Int} (ht : 0 ≤ t ∧ t ≤ 1000000001) : access_sleep_before N C S O I t = some (cntF C S O t - cntF C S O 0) := by
 obtain ⟨hC, hS, hO, hI⟩ := id h
 have h1 := tmodP (t := t) h.pos ht.1
 have h2 := tdivP (t := t) h.pos ht.1
 have hd := dm (n := t) h.pos
 have hm := mulO (O := O) (C := C) (t := t) h2.2.1 (by omega) (by omega)
 unfold access_sleep_before
 rw [chk_pos (by omega), h2.1, w64_id (n := t / C) (by omega), w64_id (n := t / C * O) (by omega)]
 show chk (C ≠ 0) (rds (access_sleep_before.b1 N C S O I t fun n => some n) N (t / C * O, 0)) = _
 rw [chk_pos (by omega)]
 have key : rds (access_sleep_before.b1 N C S O I t fun n => some n) N (t / C * O, 0) = some (t / C * O + (cntF C S O (t % C) - cntF C S O 0)) := by
  refine rds_spec (fun s : Int × Int => (0 ≤ s.2 ∧ s.2 ≤ t % C) ∧ 0 ≤ s.1 ∧ s.1 + (t % C - s.2) ≤ 3000000000) (fun s => (t % C - s.2).toNat) (fun s => some (s.1 + (cntF C S O (t % C) - cntF C S O s.2))) (fun rec s hs hrec => ?_) N (t / C * O, 0) (by simp only; omega) (by simp only; omega)
  obtain ⟨n, u⟩ := s
  simp only at hs hrec ⊢
  unfold access_sleep_before.b1
  simp only [h1.1]
  by_cases hu : u < t % C
  ·
   rw [br_pos (by simpa using hu), on_c h (by omega)]
   have hcs := cnt_succ (S := S) (t := u) h.pos (show 0 ≤ O ∧ O ≤ C by omega)
   simp only [bnd_val]
   rw [w64_id (n := u + 1) (by omega)]
   by_cases ho : onF C S O u = true
   ·
    rw [br_pos ho, w64_id (n := n + 1) (by omega), hrec (n + 1, u + 1) (by simp only; omega) (by simp only; omega)]
    rw [if_pos ho] at hcs
    simp only [Option.some.injEq]; omega
   ·
    rw [br_neg (Bool.eq_false_iff.2 ho), hrec (n, u + 1) (by simp only; omega) (by simp only; omega)]
    rw [if_neg ho] at hcs
    simp only [Option.some.injEq]; omega
  ·
   rw [br_neg (by simpa using hu)]
   have : u = t % C := by omega
   subst this
   simp
 rw [key]
 have hp := cnt_per (S := S) (O := O) (t := t % C) (k := t / C) h.pos
 rw [show t % C + C * (t / C) = t by omega] at hp
 rw [hp, Int.mul_comm O]
 simp only [Option.some.injEq]; omega
def awakeF (C S O lo hi : Int) : Int := cntF C S O (hi + 1) - cntF C S O lo
theorem awakeIn_c (h : okSleep C S O I) (hN : 30000 ≤ N) {lo hi : Int} (hl : 0 ≤ lo ∧ lo ≤ 1000000000) (hh : 0 ≤ hi ∧ hi ≤ 1000000000) (hlh : lo ≤ hi) : access_sleep_awakeIn N C S O I lo hi = some (awakeF C S O lo hi) := by
 obtain ⟨hC, hS, hO, hI⟩ := id h
 unfold access_sleep_awakeIn
 rw [w64_id (n := hi + 1) (by omega), before_c h hN (by omega), before_c h hN (by omega)]
 simp only [bnd_val]
 have h1 := cnt_bd (S := S) (O := O) (a := 0) (b := hi + 1) h.pos (by omega) (by omega)
 have h2 := cnt_bd (S := S) (O := O) (a := 0) (b := lo) h.pos (by omega) (by omega)
 rw [w64_id (by omega)]
 simp only [Option.some.injEq, awakeF]; omega
theorem AwakeInR_c (h : okSleep C S O I) (hN : 30000 ≤ N) {lo hi : Int} (hl : 0 ≤ lo ∧ lo ≤ 1000000000) (hh : 0 ≤ hi ∧ hi ≤ 1000000000) (hlh : lo ≤ hi) : ref07_AwakeIn N C S O I lo hi = some (awakeF C S O lo hi) := by
 obtain ⟨hC, hS, hO, hI⟩ := id h
 have h2 := tdivP (t := hi - lo) h.pos (by omega)
 have hd := dm (n := hi - lo) h.pos
 have hm := mulO (O := O) (C := C) (t := hi - lo) h2.2.1 (by omega) (by omega)
 have hc0 : 0 ≤ C * ((hi - lo) / C) := Int.mul_nonneg (by omega) h2.2.1
 unfold ref07_AwakeIn
 rw [chk_pos (by omega), w64_id (n := hi - lo) (by omega), h2.1, w64_id (n := (hi - lo) / C) (by omega), w64_id (n := (hi - lo) / C * O) (by omega), Int.mul_comm ((hi - lo) / C) C, w64_id (n := C * ((hi - lo) / C)) (by omega), w64_id (n := lo + C * ((hi - lo) / C)) (by omega)]
 show rds (ref07_AwakeIn.b1 N C S O I hi fun on => some on) N ((hi - lo) / C * O, lo + C * ((hi - lo) / C)) = _
 have key : rds (ref07_AwakeIn.b1 N C S O I hi fun on => some on) N ((hi - lo) / C * O, lo + C * ((hi - lo) / C)) = some ((hi - lo) / C * O + (cntF C S O (hi + 1) - cntF C S O (lo + C * ((hi - lo) / C)))) := by
  refine rds_spec (fun s : Int × Int => (0 ≤ s.2 ∧ s.2 ≤ hi + 1) ∧ 0 ≤ s.1 ∧ s.1 + (hi + 1 - s.2) ≤ 3000000000) (fun s => (hi + 1 - s.2).toNat) (fun s => some (s.1 + (cntF C S O (hi + 1) - cntF C S O s.2))) (fun rec s hs hrec => ?_) N _ (by simp only; omega) (by simp only; omega)
  obtain ⟨n, u⟩ := s
  simp only at hs hrec ⊢
  unfold ref07_AwakeIn.b1
  simp only
  by_cases hu : u ≤ hi
  ·
   rw [br_pos (by simpa using hu), On_c h (by omega)]
   have hcs := cnt_succ (S := S) (t := u) h.pos (show 0 ≤ O ∧ O ≤ C by omega)
   simp only [bnd_val]
   rw [w64_id (n := u + 1) (by omega)]
   by_cases ho : onF C S O u = true
   ·
    rw [br_pos ho, w64_id (n := n + 1) (by omega), hrec (n + 1, u + 1) (by simp only; omega) (by simp only; omega)]
    rw [if_pos ho] at hcs
    simp only [Option.some.injEq]; omega
   ·
    rw [br_neg (Bool.eq_false_iff.2 ho), hrec (n, u + 1) (by simp only; omega) (by simp only; omega)]
    rw [if_neg ho] at hcs
    simp only [Option.some.injEq]; omega
  ·
   rw [br_neg (by simpa using hu)]
   have : u = hi + 1 := by omega
   subst this
   simp
 rw [key, cnt_per h.pos, Int.mul_comm O]
 simp only [Option.some.injEq, awakeF]; omega
theorem NextAwakeR_c (h : okSleep C S O I) (hN : 30000 ≤ N) {t : Int} (ht : 0 ≤ t ∧ t ≤ 1000000000) : ref07_NextAwake N C S O I t = some (nextF C S O t) := by
 obtain ⟨hC, hS, hO, hI⟩ := id h
 unfold ref07_NextAwake
 show rds (ref07_NextAwake.b1 N C S O I fun t => some t) N t = _
 have hb := next_bd (S := S) (t := t) h.pos hO.1
 refine rds_spec (fun u : Int => t ≤ u ∧ u ≤ nextF C S O t) (fun u => (nextF C S O t - u).toNat) (fun u => some (nextF C S O t)) (fun rec u hu hrec => ?_) N t (by omega) (by omega)
 unfold ref07_NextAwake.b1
 rw [On_c h (by omega)]
 simp only [bnd_val]
 by_cases he : u = nextF C S O t
 · rw [br_neg (by rw [he, next_on h.pos hO.1]; rfl), he]
 ·
  have ho := next_off (S := S) (O := O) (t := t) h.pos hu.1 (show u < nextF C S O t by omega)
  rw [br_pos (by rw [ho]; rfl), w64_id (by omega), hrec (u + 1) (by omega) (by omega)]
theorem Floor_c {a b : Int} (hb : 0 < b) (ha : -4000000000 ≤ a ∧ a ≤ 4000000000) : base_Floor N a b = some (a / b) := by
 unfold base_Floor
 have h1 : (a.tdiv b).natAbs ≤ a.natAbs := by rw [Int.natAbs_tdiv]; exact Nat.div_le_self _ _
 rw [chk_pos (by omega), chk_pos (by omega), w64_id (n := a.tdiv b) (by omega), w64_id (n := a.tdiv b - 1) (by omega), br_val, ← floor_eq2 hb]
 simp only [decide_eq_true_eq]
theorem wakesR_c (h : okSleep C S O I) {lo hi : Int} (hl : 0 ≤ lo ∧ lo ≤ 1000000000) (hh : 0 ≤ hi ∧ hi ≤ 1000000000) (hlh : lo ≤ hi) : ref07_wakes N C S O I lo hi = some (wakesF C S O lo hi) := by
 obtain ⟨hC, hS, hO, hI⟩ := id h
 have h1 := div_mono (C := C) (a := lo - S) (b := hi - S) h.pos (by omega)
 have hw := wakes_bd (S := S) (O := O) (lo := lo) (hi := hi) h.pos hlh
 have hq : -30000 ≤ (lo - S) / C ∧ (hi - S) / C ≤ 1000000000 := by
  constructor
  · exact (Int.le_ediv_iff_mul_le h.pos).2 (by have : C * 1 ≤ C * 30000 := Int.mul_le_mul_of_nonneg_left (by omega) (by omega); rw [Int.neg_mul, Int.mul_comm]; omega)
  ·
   have : (hi - S) / C < 1000000001 := Int.ediv_lt_of_lt_mul h.pos (by have : 1 * 1000000001 ≤ C * 1000000001 := Int.mul_le_mul_of_nonneg_right (by omega) (by omega); rw [Int.mul_comm]; omega)
   omega
 have key : ∀ n : Int, 0 ≤ n ∧ n ≤ 1 → br (decide (O < C)) (bnd (base_Floor N (w64 (hi - S)) C) fun x2 => bnd (base_Floor N (w64 (lo - S)) C) fun x3 => some (w64 (w64 (n + x2) - x3))) (some n) = some (n + if O < C then (hi - S) / C - (lo - S) / C else 0) := by
  intro n hn
  by_cases hOC : O < C
  ·
   rw [br_pos (by simpa using hOC), if_pos hOC, w64_id (n := hi - S) (by omega), w64_id (n := lo - S) (by omega), Floor_c h.pos (by omega), Floor_c h.pos (by omega)]
   simp only [bnd_val]
   rw [w64_id (n := n + (hi - S) / C) (by omega), w64_id (by omega)]
   simp only [Option.some.injEq]; omega
  · rw [br_neg (by simpa using hOC), if_neg hOC, Int.add_zero]
 unfold ref07_wakes jn
 rw [On_c h (by omega)]
 simp only [bnd_val]
 unfold wakesF
 by_cases ho : onF C S O lo = true
 · rw [br_pos ho, if_pos ho]; exact key 1 (by omega)
 · rw [br_neg (Bool.eq_false_iff.2 ho), if_neg ho]; exact key 0 (by omega)
theorem wakes_c (h : okSleep C S O I) {lo hi : Int} (hl : 0 ≤ lo ∧ lo ≤ 1000000000) (hh : 0 ≤ hi ∧ hi ≤ 1000000000) (hlh : lo ≤ hi) : access_sleep_wakes N C S O I lo hi = some (wakesF C S O lo hi) := by
 obtain ⟨hC, hS, hO, hI⟩ := id h
 have hs := since_bd (S := S) (t := lo) h.pos
 have ht := wakes_tail (S := S) (lo := lo) (hi := hi) h.pos hlh
 have key : ∀ n : Int, 0 ≤ n ∧ n ≤ 1 → br (O == C) (some n) (bnd (access_sleep_since N C S O I lo) fun x2 => br (decide (w64 (w64 (lo + C) - x2) ≤ hi)) (chk (C ≠ 0) <| some (w64 (n + w64 (w64 ((w64 (hi - w64 (w64 (lo + C) - x2))).tdiv C) + 1)))) (some n)) = some (n + if O < C then (hi - S) / C - (lo - S) / C else 0) := by
  intro n hn
  by_cases hOC : O = C
  · rw [br_pos (by simpa using hOC), if_neg (by omega), Int.add_zero]
  ·
   rw [br_neg (by simpa using hOC), if_pos (by omega), since_c h (by omega)]
   simp only [bnd_val]
   rw [w64_id (n := lo + C) (by omega), w64_id (n := lo + C - sinceF C S lo) (by omega)]
   by_cases hb : lo + C - sinceF C S lo ≤ hi
   ·
    rw [br_pos (by simpa using hb), chk_pos (by omega), w64_id (n := hi - (lo + C - sinceF C S lo)) (by omega)]
    have h2 := tdivP (t := hi - (lo + C - sinceF C S lo)) h.pos (by omega)
    rw [h2.1, w64_id (n := (hi - (lo + C - sinceF C S lo)) / C) (by omega), w64_id (n := (hi - (lo + C - sinceF C S lo)) / C + 1) (by omega), w64_id (by omega)]
    rw [if_pos hb] at ht
    rw [ht]
   ·
    rw [br_neg (by simpa using hb)]
    rw [if_neg hb] at ht
    rw [← ht, Int.add_zero]
 unfold access_sleep_wakes jn
 rw [on_c h (by omega)]
 simp only [bnd_val]
 unfold wakesF
 by_cases ho : onF C S O lo = true
 · rw [br_pos ho, if_pos ho]; exact key 1 (by omega)
 · rw [br_neg (Bool.eq_false_iff.2 ho), if_neg ho]; exact key 0 (by omega)
end
end
end Go.Sh

/-
 The laws of sleep: both sides agree; ranges are summed up.
-/
namespace Go.Sh
open Go.PW
noncomputable section
section
variable {N : Nat} {C S O I : Int}
theorem sleepE_ok (h : okSleep C S O I) : sleepE C S O I = 0 := if_pos h
theorem sleepE_bad (h : ¬ okSleep C S O I) : sleepE C S O I = 2 := if_neg h
theorem tickE_ok {t : Int} (h : 0 ≤ t ∧ t ≤ 1000000000) : tickE t = 0 := if_pos h
theorem tickE_bad {t : Int} (h : ¬ (0 ≤ t ∧ t ≤ 1000000000)) : tickE t = 2 := if_neg h
def lastE (l : Int) : Int := if l = -1 ∨ (0 ≤ l ∧ l ≤ 1000000000) then 0 else 2
def actF (I t l : Int) : Bool := (l != -1) && inB (t - l) 0 (I - 1)
theorem and_self_l (a b : Bool) : (a && (a && b)) = (a && b) := by cases a <;> rfl
theorem or_not_and (a b : Bool) : (a || (!a && b)) = (a || b) := by cases a <;> cases b <;> rfl
theorem AwakeAt_bad {t l e : Int} (hN : 10 ≤ N) (h : firstF [sleepE C S O I, tickE t, lastE l] = e) (he : e ≠ 0) : access_AwakeAt N C S O I t l = some (false, e) := by
 have hl : ((if ((l == -1) || (if (!(l == -1)) = true then inB l 0 1000000000 else false)) = true then 0 else 2) : Int) = lastE l := by
  unfold lastE
  by_cases h1 : l = -1
  · simp [h1]
  ·
   have : (l == -1) = false := by simpa using h1
   simp only [this, Bool.not_false, if_true, Bool.false_or, inB_true, h1, false_or]
 unfold access_AwakeAt
 simp only [CheckSleep_eq, tickErr_eq, isTick_eq, unless_eq, bnd_val, grd_val]
 rw [first_eq (by simp; omega) (by simp), hl, h]
 simp only [bnd_val]
 rw [br_pos (by simpa using he)]
theorem AwakeAt_c {t l : Int} (hN : 10 ≤ N) (h : okSleep C S O I) (ht : 0 ≤ t ∧ t ≤ 1000000000) (hl : l = -1 ∨ (0 ≤ l ∧ l ≤ 1000000000)) : access_AwakeAt N C S O I t l = some (actF I t l || onF C S O t, 0) := by
 obtain ⟨hC, hS, hO, hI⟩ := id h
 have hle : ((if ((l == -1) || (if (!(l == -1)) = true then inB l 0 1000000000 else false)) = true then 0 else 2) : Int) = 0 := by
  by_cases h1 : l = -1
  · simp [h1]
  ·
   have : (l == -1) = false := by simpa using h1
   simp only [this, Bool.not_false, if_true, Bool.false_or, inB_true]
   rw [if_pos (hl.resolve_left h1)]
 unfold access_AwakeAt
 simp only [CheckSleep_eq, tickErr_eq, isTick_eq, unless_eq, bnd_val, grd_val, within_eq]
 rw [first_eq (by simp; omega) (by simp), hle, sleepE_ok h, tickE_ok ht]
 simp only [firstF, if_true, bnd_val]
 rw [br_neg (by simp), w64_id (n := t - l) (by omega), w64_id (n := I - 1) (by omega), on_c h (by omega)]
 simp only [grd_val, bnd_val, ite_and_false, and_self_l, or_not_and, actF]
theorem AwakeAtR_c {t l : Int} (h : okSleep C S O I) (ht : 0 ≤ t ∧ t ≤ 1000000000) (hl : l = -1 ∨ (0 ≤ l ∧ l ≤ 1000000000)) : ref07_AwakeAt N C S O I t l = some (actF I t l || onF C S O t) := by
 obtain ⟨hC, hS, hO, hI⟩ := id h
 unfold ref07_AwakeAt
 rw [On_c h (by omega), w64_id (n := t - l) (by omega), w64_id (n := I - 1) (by omega)]
 simp only [bnd_val, Within_eq, grd_val, ite_and_false, actF]
 cases onF C S O t <;> cases (l != -1) <;> simp
theorem NextAwake_bad {t e : Int} (hN : 10 ≤ N) (h : firstF [sleepE C S O I, tickE t] = e) (he : e ≠ 0) : access_NextAwake N C S O I t = some (0, e) := by
 unfold access_NextAwake
 simp only [CheckSleep_eq, tickErr_eq, bnd_val]
 rw [first_eq (by simp; omega) (by simp), h]
 simp only [bnd_val]
 rw [br_pos (by simpa using he)]
theorem NextAwake_c {t : Int} (hN : 10 ≤ N) (h : okSleep C S O I) (ht : 0 ≤ t ∧ t ≤ 1000000000) : access_NextAwake N C S O I t = some (nextF C S O t, 0) := by
 obtain ⟨hC, hS, hO, hI⟩ := id h
 have hs := since_bd (S := S) (t := t) h.pos
 unfold access_NextAwake
 simp only [CheckSleep_eq, tickErr_eq, bnd_val]
 rw [first_eq (by simp; omega) (by simp), sleepE_ok h, tickE_ok ht]
 simp only [firstF, if_true, bnd_val]
 rw [br_neg (by simp), on_c h (by omega)]
 simp only [bnd_val]
 unfold nextF
 by_cases ho : onF C S O t = true
 · rw [br_pos ho, if_pos ho]
 ·
  rw [br_neg (Bool.eq_false_iff.2 ho), if_neg ho, since_c h (by omega)]
  simp only [bnd_val]
  rw [w64_id (n := t + C) (by omega), w64_id (by omega)]
theorem AwakeIn_bad {lo hi e : Int} (hN : 10 ≤ N) (h : firstF [sleepE C S O I, ticksE lo hi] = e) (he : e ≠ 0) : access_AwakeIn N C S O I lo hi = some (0, e) := by
 unfold access_AwakeIn
 simp only [CheckSleep_eq, ticksErr_eq hN, bnd_val]
 rw [first_eq (by simp; omega) (by simp), h]
 simp only [bnd_val]
 rw [br_pos (by simpa using he)]
theorem ticks_ok {lo hi : Int} (h : ticksE lo hi = 0) : (0 ≤ lo ∧ lo ≤ 1000000000) ∧ (0 ≤ hi ∧ hi ≤ 1000000000) ∧ lo ≤ hi := by
 unfold ticksE tickE firstF firstF firstF firstF at h
 by_cases h1 : 0 ≤ lo ∧ lo ≤ 1000000000 <;> by_cases h2 : 0 ≤ hi ∧ hi ≤ 1000000000 <;> by_cases h3 : lo ≤ hi <;> simp_all
theorem AwakeIn_c {lo hi : Int} (hN : 30000 ≤ N) (h : okSleep C S O I) (ht : ticksE lo hi = 0) : access_AwakeIn N C S O I lo hi = some (awakeF C S O lo hi, 0) := by
 obtain ⟨h1, h2, h3⟩ := ticks_ok ht
 unfold access_AwakeIn
 simp only [CheckSleep_eq, ticksErr_eq (show 10 ≤ N by omega), bnd_val]
 rw [first_eq (by simp; omega) (by simp), sleepE_ok h, ht]
 simp only [firstF, if_true, bnd_val]
 rw [br_neg (by simp), awakeIn_c h hN h1 h2 h3]
 rfl
def enW (on wk lo hi a z w : Int) : Int := w64 ((w64 ((w64 (on * a)) + (w64 ((w64 ((w64 ((w64 (hi - lo)) + (1 : Int))) - on)) * z)))) + (w64 (wk * w)))
theorem isPow_eq (n : Int) : access_EnergyOf_1 N n = some (inB n 0 1000) := rfl
theorem Energy_bad {lo hi a z w e : Int} (hN : 10 ≤ N) (h : firstF [sleepE C S O I, ticksE lo hi, powE a z w] = e) (he : e ≠ 0) : access_EnergyOf N C S O I lo hi a z w = some (0, e) := by
 unfold access_EnergyOf
 simp only [CheckSleep_eq, ticksErr_eq hN, bnd_val, isPow_eq, grd_val, unless_eq, ite_and_false]
 have hp : ((inB a 0 1000 && (inB a 0 1000 && inB z 0 1000)) && ((inB a 0 1000 && (inB a 0 1000 && inB z 0 1000)) && inB w 0 1000)) = ((inB a 0 1000 && inB z 0 1000) && inB w 0 1000) := by
  cases inB a 0 1000 <;> cases inB z 0 1000 <;> cases inB w 0 1000 <;> rfl
 rw [hp, powB]
 simp only [decide_eq_true_eq]
 rw [first_eq (by simp; omega) (by simp), show (if (0 ≤ a ∧ a ≤ 1000) ∧ (0 ≤ z ∧ z ≤ 1000) ∧ 0 ≤ w ∧ w ≤ 1000 then (0 : Int) else 2) = powE a z w from rfl, h]
 simp only [bnd_val]
 rw [br_pos (by simpa using he)]
theorem Energy_c {lo hi a z w : Int} (hN : 30000 ≤ N) (h : okSleep C S O I) (ht : ticksE lo hi = 0) (hp0 : powE a z w = 0) : access_EnergyOf N C S O I lo hi a z w = some (enW (awakeF C S O lo hi) (wakesF C S O lo hi) lo hi a z w, 0) := by
 obtain ⟨h1, h2, h3⟩ := ticks_ok ht
 unfold access_EnergyOf
 simp only [CheckSleep_eq, ticksErr_eq (show 10 ≤ N by omega), bnd_val, isPow_eq, grd_val, unless_eq, ite_and_false]
 have hp : ((inB a 0 1000 && (inB a 0 1000 && inB z 0 1000)) && ((inB a 0 1000 && (inB a 0 1000 && inB z 0 1000)) && inB w 0 1000)) = ((inB a 0 1000 && inB z 0 1000) && inB w 0 1000) := by
  cases inB a 0 1000 <;> cases inB z 0 1000 <;> cases inB w 0 1000 <;> rfl
 rw [hp, powB]
 simp only [decide_eq_true_eq]
 rw [first_eq (by simp; omega) (by simp), show (if (0 ≤ a ∧ a ≤ 1000) ∧ (0 ≤ z ∧ z ≤ 1000) ∧ 0 ≤ w ∧ w ≤ 1000 then (0 : Int) else 2) = powE a z w from rfl, sleepE_ok h, ht, hp0]
 simp only [firstF, if_true, bnd_val]
 rw [br_neg (by simp), awakeIn_c h hN h1 h2 h3, wakes_c h h1 h2 h3]
 rfl
theorem EnergyR_c {lo hi a z w : Int} (hN : 30000 ≤ N) (h : okSleep C S O I) (ht : ticksE lo hi = 0) : ref07_EnergyOf N C S O I lo hi a z w = some (enW (awakeF C S O lo hi) (wakesF C S O lo hi) lo hi a z w) := by
 obtain ⟨h1, h2, h3⟩ := ticks_ok ht
 unfold ref07_EnergyOf
 rw [AwakeInR_c h hN h1 h2 h3, wakesR_c h h1 h2 h3]
 rfl
theorem tail_ok {lo hi a z w : Int} (hN : 30000 ≤ N) (h : okSleep C S O I) {x5 x51 x6 x61 : Int} (h5 : access_AwakeIn N C S O I lo hi = some (x5, x51)) (h6 : access_EnergyOf N C S O I lo hi a z w = some (x6, x61)) :
  (bnd (ref07_TicksErr N lo hi) fun x12 =>
  br ((x12 != (0 : Int))) (
  some ((((x51 == x12) && (x61 == x12)) && (x5 == (0 : Int))) && (x6 == (0 : Int)))) (
  bnd (grd (!(x51 != (0 : Int))) 0 (ref07_AwakeIn N C S O I lo hi)) fun x13 =>
  br (((x51 != (0 : Int)) || (x5 != x13))) (
  some false) (
  bnd (ref07_PowersErr N a z w) fun x14 =>
  br ((x14 != (0 : Int))) (
  some ((x61 == x14) && (x6 == (0 : Int)))) (
  bnd (grd (x61 == (0 : Int)) 0 (ref07_EnergyOf N C S O I lo hi a z w)) fun x15 =>
  some ((x61 == (0 : Int)) && (x6 == x15)))))) = some true := by
 rw [TicksErr_eq, PowersErr_eq]
 simp only [bnd_val]
 by_cases ht : ticksE lo hi = 0
 ·
  obtain ⟨h1, h2, h3⟩ := ticks_ok ht
  rw [AwakeIn_c hN h ht] at h5
  simp only [Option.some.injEq, Prod.mk.injEq] at h5
  obtain ⟨rfl, rfl⟩ := h5
  rw [br_neg (by simpa using ht), AwakeInR_c h hN h1 h2 h3]
  simp only [grd_val, bnd_val]
  rw [br_neg (by simp)]
  by_cases hp : powE a z w = 0
  ·
   rw [Energy_c hN h ht hp] at h6
   simp only [Option.some.injEq, Prod.mk.injEq] at h6
   obtain ⟨rfl, rfl⟩ := h6
   rw [br_neg (by simpa using hp), EnergyR_c hN h ht]
   simp [grd_val]
  ·
   rw [Energy_bad (show 10 ≤ N by omega) (e := powE a z w) (by simp [firstF, sleepE_ok h, ht, hp]) hp] at h6
   simp only [Option.some.injEq, Prod.mk.injEq] at h6
   obtain ⟨rfl, rfl⟩ := h6
   rw [br_pos (by simpa using hp)]
   simp
 ·
  rw [AwakeIn_bad (show 10 ≤ N by omega) (e := ticksE lo hi) (by simp [firstF, sleepE_ok h, ht]) ht] at h5
  rw [Energy_bad (show 10 ≤ N by omega) (e := ticksE lo hi) (by simp [firstF, sleepE_ok h, ht]) ht] at h6
  simp only [Option.some.injEq, Prod.mk.injEq] at h5 h6
  obtain ⟨rfl, rfl⟩ := h5
  obtain ⟨rfl, rfl⟩ := h6
  rw [br_pos (by simpa using ht)]
  simp
theorem law_AccessSleeps (hN : 30000 ≤ N) (t l lo hi a z w : Int) : law07_AccessSleeps N C S O I t l lo hi a z w = some true := by
 unfold law07_AccessSleeps
 simp only [law07_awake, bnd_val, Bool.not_true, br_false, CheckSleep_eq, CheckSleepR_eq]
 by_cases h : okSleep C S O I
 ·
  obtain ⟨⟨x5, x51⟩, h5⟩ : ∃ x : Int × Int, access_AwakeIn N C S O I lo hi = some x := by
   by_cases ht : ticksE lo hi = 0
   · exact ⟨_, AwakeIn_c hN h ht⟩
   · exact ⟨_, AwakeIn_bad (show 10 ≤ N by omega) rfl (by simpa [firstF, sleepE_ok h] using ht)⟩
  obtain ⟨⟨x6, x61⟩, h6⟩ : ∃ x : Int × Int, access_EnergyOf N C S O I lo hi a z w = some x := by
   by_cases ht : ticksE lo hi = 0
   ·
    by_cases hp : powE a z w = 0
    · exact ⟨_, Energy_c hN h ht hp⟩
    · exact ⟨_, Energy_bad (show 10 ≤ N by omega) rfl (by simpa [firstF, sleepE_ok h, ht] using hp)⟩
   · exact ⟨_, Energy_bad (show 10 ≤ N by omega) rfl (by simpa [firstF, sleepE_ok h, ht] using ht)⟩
  have T := tail_ok hN h h5 h6
  rw [h5, h6]
  simp only [bnd_val, sleepE_ok h]
  by_cases ht : 0 ≤ t ∧ t ≤ 1000000000
  ·
   rw [NextAwake_c (by omega) h ht]
   by_cases hl : l = -1 ∨ (0 ≤ l ∧ l ≤ 1000000000)
   ·
    rw [AwakeAt_c (by omega) h ht hl, AwakeAtR_c h ht hl]
    simp only [bnd_val, jn, T, TickErr_eq, NextAwakeR_c h hN ht, grd_val, tickE_ok ht]
    by_cases h1 : l = -1
    · simp [h1, br]
    · simp [h1, tickE_ok (hl.resolve_left h1), br]
   ·
    have hb : lastE l = 2 := if_neg hl
    rw [AwakeAt_bad (e := 2) (by omega) (by simp [firstF, sleepE_ok h, tickE_ok ht, hb]) (by decide)]
    simp only [bnd_val, jn, T, TickErr_eq, NextAwakeR_c h hN ht, grd_val, tickE_ok ht]
    have h1 : l ≠ -1 := fun e => hl (.inl e)
    have h2 : tickE l = 2 := tickE_bad fun e => hl (.inr e)
    simp [h1, h2, br]
  ·
   have hb := tickE_bad ht
   rw [NextAwake_bad (e := 2) (by omega) (by simp [firstF, sleepE_ok h, hb]) (by decide), AwakeAt_bad (e := 2) (by omega) (by simp [firstF, sleepE_ok h, hb]) (by decide)]
   simp only [bnd_val, jn, T, TickErr_eq, hb]
   simp
 ·
  have hb := sleepE_bad h
  rw [NextAwake_bad (e := 2) (by omega) (by simp [firstF, hb]) (by decide), AwakeAt_bad (e := 2) (by omega) (by simp [firstF, hb]) (by decide), AwakeIn_bad (e := 2) (by omega) (by simp [firstF, hb]) (by decide), Energy_bad (e := 2) (by omega) (by simp [firstF, hb]) (by decide)]
  simp [hb]
end
end
end Go.Sh
