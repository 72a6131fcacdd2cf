/-
 Phones that are on in cycles: how often, and when next. Plain numbers.
-/
import Derived.Test.YtbndgoeahoadlaaDoorPlA
import Derived.Test.YtbndgoeahoadlaaDoorDsS
set_option linter.all false
namespace Go.Sh
open Go.PW

theorem dm {n b : Int} (hb : 0 < b) : n = b * (n / b) + n % b ∧ 0 ≤ n % b ∧ n % b < b :=
 ⟨(Int.mul_ediv_add_emod n b).symm, Int.emod_nonneg n (by omega), Int.emod_lt_of_pos n hb⟩
theorem dm_of {n b q r : Int} (hb : 0 < b) (h : n = b * q + r) (h0 : 0 ≤ r) (h1 : r < b) : n / b = q ∧ n % b = r :=
 (Int.ediv_emod_unique hb).2 ⟨by omega, h0, h1⟩
theorem mod_add_mul {x b k : Int} : (x + b * k) % b = x % b := Int.add_mul_emod_self_left x b k

def sinceF (C S t : Int) : Int := (t - S) % C
def onF (C S O t : Int) : Bool := decide (sinceF C S t < O)
theorem since_eq {C S t : Int} (hC : 0 < C) (hS : 0 ≤ S ∧ S < C) (ht : 0 ≤ t) : (t.tmod C + C - S).tmod C = sinceF C S t := by
 have h := dm (n := t) hC
 rw [Int.tmod_eq_emod_of_nonneg ht, Int.tmod_eq_emod_of_nonneg (by omega)]
 unfold sinceF
 have e : t % C + C - S = (t - S) + C * (1 - t / C) := by rw [Int.mul_sub]; omega
 rw [e, mod_add_mul]
theorem since_bd {C S t : Int} (hC : 0 < C) : 0 ≤ sinceF C S t ∧ sinceF C S t < C := ⟨Int.emod_nonneg _ (by omega), Int.emod_lt_of_pos _ hC⟩
theorem since_per {C S t k : Int} : sinceF C S (t + C * k) = sinceF C S t := by
 unfold sinceF
 rw [show t + C * k - S = (t - S) + C * k by omega, mod_add_mul]
theorem since_succ {C S t : Int} (hC : 0 < C) : sinceF C S (t + 1) = if sinceF C S t + 1 < C then sinceF C S t + 1 else 0 := by
 unfold sinceF
 have h := dm (n := t - S) hC
 split
 · exact (dm_of hC (q := (t - S) / C) (by omega) (by omega) (by omega)).2
 · exact (dm_of hC (q := (t - S) / C + 1) (by rw [Int.mul_add]; omega) (by omega) (by omega)).2
def cntF (C S O t : Int) : Int := O * ((t - S) / C) + (if sinceF C S t < O then sinceF C S t else O)
theorem cnt_succ {C S O t : Int} (hC : 0 < C) (hO : 0 ≤ O ∧ O ≤ C) : cntF C S O (t + 1) = cntF C S O t + (if onF C S O t = true then 1 else 0) := by
 have h := dm (n := t - S) hC
 have hs := since_succ (S := S) (t := t) hC
 unfold cntF onF
 simp only [decide_eq_true_eq]
 by_cases h1 : sinceF C S t + 1 < C
 ·
  rw [if_pos h1] at hs
  have hq : (t + 1 - S) / C = (t - S) / C := (dm_of hC (q := (t - S) / C) (r := sinceF C S t + 1) (by unfold sinceF; omega) (by unfold sinceF; omega) h1).1
  rw [hs, hq]
  generalize O * ((t - S) / C) = z
  split <;> split <;> omega
 ·
  rw [if_neg h1] at hs
  have hb := since_bd (S := S) (t := t) hC
  have hq : (t + 1 - S) / C = (t - S) / C + 1 := (dm_of hC (q := (t - S) / C + 1) (r := 0) (by unfold sinceF at h1 hb; rw [Int.mul_add]; omega) (by omega) hC).1
  rw [hs, hq, Int.mul_add, Int.mul_one]
  generalize O * ((t - S) / C) = z
  split <;> split <;> omega
theorem cnt_per {C S O t k : Int} (hC : 0 < C) : cntF C S O (t + C * k) = cntF C S O t + O * k := by
 unfold cntF
 rw [since_per, show t + C * k - S = (t - S) + C * k by omega, Int.add_mul_ediv_left _ _ (by omega), Int.mul_add]
 omega
theorem cnt_mono {C S O : Int} (hC : 0 < C) (hO : 0 ≤ O ∧ O ≤ C) (t : Int) : ∀ n : Nat, cntF C S O t ≤ cntF C S O (t + n) ∧ cntF C S O (t + n) ≤ cntF C S O t + n
 | 0 => by simp
 | n + 1 => by
  have ih := cnt_mono (S := S) hC hO t n
  have := cnt_succ (S := S) (O := O) (t := t + n) hC hO
  rw [show t + ((n + 1 : Nat) : Int) = t + n + 1 by omega, this]
  split <;> omega
theorem cnt_bd {C S O a b : Int} (hC : 0 < C) (hO : 0 ≤ O ∧ O ≤ C) (h : a ≤ b) : 0 ≤ cntF C S O b - cntF C S O a ∧ cntF C S O b - cntF C S O a ≤ b - a := by
 have := cnt_mono (S := S) hC hO a (b - a).toNat
 rw [show a + ((b - a).toNat : Int) = b by omega] at this
 omega
def wakesF (C S O lo hi : Int) : Int := (if onF C S O lo = true then 1 else 0) + (if O < C then (hi - S) / C - (lo - S) / C else 0)
theorem begin_eq {C S lo : Int} (hC : 0 < C) : lo + C - sinceF C S lo = S + C * ((lo - S) / C + 1) := by
 have h := dm (n := lo - S) hC
 unfold sinceF
 rw [Int.mul_add]; omega
theorem div_mono {C a b : Int} (hC : 0 < C) (h : a ≤ b) : a / C ≤ b / C := Int.ediv_le_ediv hC h
theorem wakes_tail {C S lo hi : Int} (hC : 0 < C) (h : lo ≤ hi) : (if lo + C - sinceF C S lo ≤ hi then (hi - (lo + C - sinceF C S lo)) / C + 1 else 0) = (hi - S) / C - (lo - S) / C := by
 rw [begin_eq hC]
 have hm := div_mono (a := lo - S) (b := hi - S) hC (by omega)
 have hh := dm (n := hi - S) hC
 split
 ·
  rename_i hb
  have : (hi - (S + C * ((lo - S) / C + 1))) = (hi - S) + C * (-((lo - S) / C + 1)) := by rw [Int.mul_neg]; omega
  rw [this, Int.add_mul_ediv_left _ _ (by omega)]
  omega
 ·
  rename_i hb
  have : (hi - S) / C < (lo - S) / C + 1 := Int.ediv_lt_of_lt_mul hC (by rw [Int.mul_comm]; omega)
  omega
end Go.Sh

/-
 Occasions: the next one of a frame and a subframe. Plain numbers.
-/
namespace Go.Sh
open Go.PW

theorem neg_mod {C a : Int} (hC : 0 < C) : (-a) % C = if a % C = 0 then 0 else C - a % C := by
 have h := dm (n := a) hC
 split
 · exact (dm_of hC (q := -(a / C)) (by rw [Int.mul_neg]; omega) (by omega) hC).2
 · exact (dm_of hC (q := -1 - a / C) (by rw [Int.mul_sub]; omega) (by omega) (by omega)).2
def gapF (C xF f : Int) : Int := (xF - f) % C
theorem gap_bd {C xF f : Int} (hC : 0 < C) : 0 ≤ gapF C xF f ∧ gapF C xF f < C := ⟨Int.emod_nonneg _ (by omega), Int.emod_lt_of_pos _ hC⟩
theorem gap_eq {C xF f : Int} (hC : 0 < C) (hx : 0 ≤ xF ∧ xF < C) (hf : 0 ≤ f) : (xF - f.tmod C + C).tmod C = gapF C xF f := by
 have h := dm (n := f) hC
 rw [Int.tmod_eq_emod_of_nonneg hf, Int.tmod_eq_emod_of_nonneg (by omega)]
 unfold gapF
 have e : xF - f % C + C = (xF - f) + C * (f / C + 1) := by rw [Int.mul_add]; omega
 rw [e, mod_add_mul]
theorem gap_zero {C xF f : Int} (hC : 0 < C) (hx : 0 ≤ xF ∧ xF < C) : gapF C xF f = 0 ↔ f % C = xF := by
 unfold gapF
 have h := dm (n := f) hC
 have h2 := dm (n := xF - f) hC
 constructor
 ·
  intro e
  exact (dm_of hC (n := f) (q := -((xF - f) / C)) (r := xF) (by rw [Int.mul_neg]; omega) hx.1 hx.2).2
 ·
  intro e
  exact (dm_of hC (n := xF - f) (q := -(f / C)) (r := 0) (by rw [Int.mul_neg]; omega) (by omega) hC).2
theorem gap_ring {C xF f : Int} (hd : C ∣ 1024) : gapF C xF (f % 1024) = gapF C xF f := by
 unfold gapF
 have h := dm (n := f) (b := 1024) (by decide)
 obtain ⟨k, hk⟩ := hd
 have e : xF - f % 1024 = (xF - f) + C * (k * (f / 1024)) := by rw [← Int.mul_assoc, ← hk]; omega
 rw [e, mod_add_mul]
theorem ring_mod {C f : Int} (hd : C ∣ 1024) : f % 1024 % C = f % C := Int.emod_emod_of_dvd f hd
def occN (C xF xS f s : Int) : Int := if xS < s then f + 1 + gapF C xF (f + 1) else f + gapF C xF f
theorem mod10 {C a s : Int} (hC : 0 < C) (hs : 0 ≤ s ∧ s ≤ 9) : (10 * a + s) % (10 * C) = 10 * (a % C) + s := by
 have h := dm (n := a) hC
 exact (dm_of (b := 10 * C) (by omega) (q := a / C) (by rw [Int.mul_assoc]; omega) (by omega) (by omega)).2
theorem occ_since {C xF xS f s : Int} (hC : 0 < C) (hs : 0 ≤ xS ∧ xS ≤ 9) (hss : 0 ≤ s ∧ s ≤ 9) :
  sinceF (10 * C) (10 * xF + xS) (10 * f + s) = if xS ≤ s then 10 * ((f - xF) % C) + (s - xS) else 10 * ((f - 1 - xF) % C) + (10 + s - xS) := by
 unfold sinceF
 split
 ·
  rw [show 10 * f + s - (10 * xF + xS) = 10 * (f - xF) + (s - xS) by omega]
  exact mod10 hC (by omega)
 ·
  rw [show 10 * f + s - (10 * xF + xS) = 10 * (f - 1 - xF) + (10 + s - xS) by omega]
  exact mod10 hC (by omega)
theorem occ_on {C xF xS f s : Int} (hC : 0 < C) (hx : 0 ≤ xF ∧ xF < C) (hs : 0 ≤ xS ∧ xS ≤ 9) (hss : 0 ≤ s ∧ s ≤ 9) : onF (10 * C) (10 * xF + xS) 1 (10 * f + s) = (decide (f % C = xF) && decide (s = xS)) := by
 unfold onF
 rw [occ_since hC hs hss, ← Bool.decide_and, decide_eq_decide]
 have hz : (f - xF) % C = 0 ↔ f % C = xF := by
  rw [← gap_zero hC hx]
  unfold gapF
  rw [show xF - f = -(f - xF) by omega, neg_mod hC]
  have := Int.emod_lt_of_pos (f - xF) hC
  split <;> omega
 have h1 := Int.emod_nonneg (f - xF) (show C ≠ 0 by omega)
 have h2 := Int.emod_nonneg (f - 1 - xF) (show C ≠ 0 by omega)
 split
 · rw [← hz]; omega
 · omega
end Go.Sh

/-
 Phones that sleep: what the functions of both sides come to.
-/
namespace Go.Sh
open Go.PW
noncomputable section

theorem grd_val {α : Type} (g : Bool) (d b : α) : grd g d (some b) = some (if g = true then b else d) := by unfold grd; split <;> rfl
theorem br_val {α : Type} (g : Bool) (a b : α) : br g (some a) (some b) = some (if g = true then a else b) := by unfold br; split <;> rfl
theorem ite_and_false (g b : Bool) : (if g = true then b else false) = (g && b) := by cases g <;> rfl
def inB (n lo hi : Int) : Bool := decide (lo ≤ n) && decide (n ≤ hi)
theorem inB_true {n lo hi : Int} : inB n lo hi = true ↔ lo ≤ n ∧ n ≤ hi := by simp [inB]
theorem within_eq (N : Nat) (n lo hi : Int) : access_within N n lo hi = some (inB n lo hi) := rfl
theorem Within_eq (N : Nat) (n lo hi : Int) : base_Within N n lo hi = some (inB n lo hi) := rfl
theorem unless_eq (N : Nat) (b : Bool) (e : Int) : access_unless N b e = some (if b = true then 0 else e) := br_val b 0 e
def firstF : List Int → Int
 | [] => 0
 | e :: l => if e = 0 then firstF l else e
theorem first_eq {N : Nat} {l : List Int} (hl : l.length < N) (hb : l.length ≤ 1000) : access_first N l = some (firstF l) := by
 have key : rds (access_first.b1 N l fun _ => some 0) N (0 : Int) = some (firstF (l.drop (0 : Int).toNat)) := by
  refine rds_spec (fun k : Int => 0 ≤ k ∧ k ≤ l.length) (fun k => l.length - k.toNat) (fun k => some (firstF (l.drop k.toNat))) (fun rec k hk hrec => ?_) N 0 (by omega) (by simp; omega)
  unfold access_first.b1
  by_cases h : k < (l.length : Int)
  ·
   rw [br_pos (by simpa using h), chk_pos (by omega)]
   have hkn : k.toNat < l.length := by omega
   have hd : l.drop k.toNat = l.getD k.toNat 0 :: l.drop (k.toNat + 1) := by
    rw [List.drop_eq_getElem_cons hkn]
    simp [List.getD_eq_getElem?_getD, hkn]
   rw [hd]
   by_cases he : l.getD k.toNat 0 = 0
   ·
    rw [br_neg (by simpa using he), w64_id (by omega), hrec (k + 1) (by omega) (by omega)]
    simp only [firstF, he, if_true]
    rw [show (k + 1).toNat = k.toNat + 1 by omega]
   ·
    rw [br_pos (by simpa using he)]
    simp only [firstF, he, if_false]
  ·
   rw [br_neg (by simpa using h)]
   rw [List.drop_eq_nil_of_le (by omega)]; rfl
 exact key
def okSleep (C S O I : Int) : Prop := (1 ≤ C ∧ C ≤ 20480) ∧ (0 ≤ S ∧ S ≤ C - 1) ∧ (1 ≤ O ∧ O ≤ C) ∧ 0 ≤ I ∧ I ≤ 20480
instance (C S O I : Int) : Decidable (okSleep C S O I) := by unfold okSleep; infer_instance
def sleepE (C S O I : Int) : Int := if okSleep C S O I then 0 else 2
def slB4 (C S O I : Int) : Bool := ((inB C 1 20480 && inB S 0 (w64 (C - 1))) && inB O 1 C) && inB I 0 20480
theorem slB4_eq {C S O I : Int} : slB4 C S O I = decide (okSleep C S O I) := by
 rw [Bool.eq_iff_iff, decide_eq_true_eq]
 unfold slB4 okSleep
 simp only [Bool.and_eq_true, inB_true]
 constructor
 ·
  rintro ⟨⟨⟨h1, h2⟩, h3⟩, h4⟩
  rw [w64_id (by omega)] at h2
  exact ⟨h1, h2, h3, h4⟩
 ·
  rintro ⟨h1, h2, h3, h4⟩
  rw [w64_id (by omega)]
  exact ⟨⟨⟨h1, h2⟩, h3⟩, h4⟩
theorem CheckSleep_eq (N : Nat) (C S O I : Int) : access_CheckSleep N C S O I = some (sleepE C S O I) := by
 have e : access_CheckSleep N C S O I = some (if slB4 C S O I = true then 0 else 2) := by
  unfold access_CheckSleep
  simp only [within_eq, unless_eq, bnd_val, grd_val, ite_and_false, slB4]
  rcases Bool.eq_false_or_eq_true (inB C 1 20480) with h1 | h1 <;> rcases Bool.eq_false_or_eq_true (inB S 0 (w64 (C - 1))) with h2 | h2 <;> rcases Bool.eq_false_or_eq_true (inB O 1 C) with h3 | h3 <;> rcases Bool.eq_false_or_eq_true (inB I 0 20480) with h4 | h4 <;> simp [h1, h2, h3, h4]
 rw [e, slB4_eq]
 simp only [decide_eq_true_eq, sleepE]
theorem CheckSleepR_eq (N : Nat) (C S O I : Int) : ref07_CheckSleep N C S O I = some (sleepE C S O I) := by
 have e : ref07_CheckSleep N C S O I = some (if slB4 C S O I = true then 0 else 2) := by
  unfold ref07_CheckSleep
  simp only [Within_eq, bnd_val, grd_val, ite_and_false, slB4]
  rcases Bool.eq_false_or_eq_true (inB C 1 20480) with h1 | h1 <;> rcases Bool.eq_false_or_eq_true (inB S 0 (w64 (C - 1))) with h2 | h2 <;> rcases Bool.eq_false_or_eq_true (inB O 1 C) with h3 | h3 <;> rcases Bool.eq_false_or_eq_true (inB I 0 20480) with h4 | h4 <;> simp [h1, h2, h3, h4]
 rw [e, slB4_eq]
 simp only [decide_eq_true_eq, sleepE]
def tickE (t : Int) : Int := if 0 ≤ t ∧ t ≤ 1000000000 then 0 else 2
theorem isTick_eq (N : Nat) (t : Int) : access_isTick N t = some (inB t 0 1000000000) := rfl
theorem tickErr_eq (N : Nat) (t : Int) : access_tickErr N t = some (tickE t) := by
 unfold access_tickErr
 simp only [isTick_eq, unless_eq, bnd_val, tickE, inB_true]
def ticksE (lo hi : Int) : Int := firstF [tickE lo, tickE hi, if lo ≤ hi then 0 else 9]
theorem ticksErr_eq {N : Nat} (hN : 10 ≤ N) (lo hi : Int) : access_ticksErr N lo hi = some (ticksE lo hi) := by
 unfold access_ticksErr
 simp only [tickErr_eq, unless_eq, bnd_val, decide_eq_true_eq]
 rw [first_eq (by simp; omega) (by simp)]
 rfl
def powE (a b c : Int) : Int := if (0 ≤ a ∧ a ≤ 1000) ∧ (0 ≤ b ∧ b ≤ 1000) ∧ 0 ≤ c ∧ c ≤ 1000 then 0 else 2
theorem powB {a b c : Int} : ((inB a 0 1000 && inB b 0 1000) && inB c 0 1000) = decide ((0 ≤ a ∧ a ≤ 1000) ∧ (0 ≤ b ∧ b ≤ 1000) ∧ 0 ≤ c ∧ c ≤ 1000) := by
 rw [Bool.eq_iff_iff]
 simp only [Bool.and_eq_true, inB_true, decide_eq_true_eq, and_assoc]
theorem PowersErr_eq (N : Nat) (a b c : Int) : ref07_PowersErr N a b c = some (powE a b c) := by
 have e : ref07_PowersErr N a b c = some (if ((inB a 0 1000 && inB b 0 1000) && inB c 0 1000) = true then 0 else 2) := by
  unfold ref07_PowersErr
  simp only [Within_eq, bnd_val, grd_val, br_val, ite_and_false]
  rcases Bool.eq_false_or_eq_true (inB a 0 1000) with h1 | h1 <;> rcases Bool.eq_false_or_eq_true (inB b 0 1000) with h2 | h2 <;> rcases Bool.eq_false_or_eq_true (inB c 0 1000) with h3 | h3 <;> simp [h1, h2, h3]
 rw [e, powB]
 simp only [decide_eq_true_eq, powE]
end
end Go.Sh

/-
 Phones that sleep: the loops of both sides.
-/
namespace Go.Sh
open Go.PW
noncomputable section
section
variable {N : Nat} {C S O I : Int}
theorem okSleep.pos (h : okSleep C S O I) : 0 < C := by have := h.1; omega
theorem tmodP {t C : Int} (hC : 0 < C) (ht : 0 ≤ t) : t.tmod C = t % C ∧ 0 ≤ t % C ∧ t % C < C := ⟨Int.tmod_eq_emod_of_nonneg ht, Int.emod_nonneg t (by omega), Int.emod_lt_of_pos t hC⟩
theorem tdivP {t C : Int} (hC : 0 < C) (ht : 0 ≤ t) : t.tdiv C = t / C ∧ 0 ≤ t / C ∧ t / C ≤ t := by
 refine ⟨Int.tdiv_eq_ediv_of_nonneg ht, Int.ediv_nonneg ht (by omega), ?_⟩
 exact Int.ediv_le_self C ht
theorem since_c (h : okSleep C S O I) {t : Int} (ht : 0 ≤ t ∧ t ≤ 2000000000) : access_sleep_since N C S O I t = some (sinceF C S t) := by
 obtain ⟨hC, hS, hO, hI⟩ := id h
 have h1 := tmodP (t := t) h.pos ht.1
 unfold access_sleep_since
 rw [chk_pos (by omega), chk_pos (by omega), w64_id (n := t.tmod C + C) (by omega), w64_id (by omega), since_eq h.pos (by omega) ht.1]
theorem on_c (h : okSleep C S O I) {t : Int} (ht : 0 ≤ t ∧ t ≤ 2000000000) : access_sleep_on N C S O I t = some (onF C S O t) := by
 unfold access_sleep_on
 rw [since_c h ht]; rfl
theorem mulO {a O C t : Int} (ha : 0 ≤ a) (hO : 0 ≤ O ∧ O ≤ C) (h : C * a ≤ t) : 0 ≤ a * O ∧ a * O ≤ t := by
 refine ⟨Int.mul_nonneg ha hO.1, ?_⟩
 have h1 : a * O ≤ a * C := Int.mul_le_mul_of_nonneg_left hO.2 ha
 rw [Int.mul_comm a C] at h1
 omega
theorem before_c (h : okSleep C S O I) (hN : 30000 ≤ N) {t : Int} (ht : 0 ≤ t ∧ t ≤ 1000000001) : access_sleep_before N C S O I t = some (cntF C S O t - cntF C S O 0) := by
 obtain ⟨hC, hS, hO, hI⟩ := id h
 have h1 := tmodP (t := t) h.pos ht.1
 have h2 := tdivP (t := t) h.pos ht.1
 have hd := dm (n := t) h.pos
 have hm := mulO (O := O) (C := C) (t := t) h2.2.1 (by omega) (by omega)
 unfold access_sleep_before
 rw [chk_pos (by omega), h2.1, w64_id (n := t / C) (by omega), w64_id (n := t / C * O) (by omega)]
 show chk (C ≠ 0) (rds (access_sleep_before.b1 N C S O I t fun n => some n) N (t / C * O, 0)) = _
 rw [chk_pos (by omega)]
 have key : rds (access_sleep_before.b1 N C S O I t fun n => some n) N (t / C * O, 0) = some (t / C * O + (cntF C S O (t % C) - cntF C S O 0)) := by
  refine rds_spec (fun s : Int × Int => (0 ≤ s.2 ∧ s.2 ≤ t % C) ∧ 0 ≤ s.1 ∧ s.1 + (t % C - s.2) ≤ 3000000000) (fun s => (t % C - s.2).toNat) (fun s => some (s.1 + (cntF C S O (t % C) - cntF C S O s.2))) (fun rec s hs hrec => ?_) N (t / C * O, 0) (by simp only; omega) (by simp only; omega)
  obtain ⟨n, u⟩ := s
  simp only at hs hrec ⊢
  unfold access_sleep_before.b1
  simp only [h1.1]
  by_cases hu : u < t % C
  ·
   rw [br_pos (by simpa using hu), on_c h (by omega)]
   have hcs := cnt_succ (S := S) (t := u) h.pos (show 0 ≤ O ∧ O ≤ C by omega)
   simp only [bnd_val]
   rw [w64_id (n := u + 1) (by omega)]
   by_cases ho : onF C S O u = true
   ·
    rw [br_pos ho, w64_id (n := n + 1) (by omega), hrec (n + 1, u + 1) (by simp only; omega) (by simp only; omega)]
    rw [if_pos ho] at hcs
    simp only [Option.some.injEq]; omega
   ·
    rw [br_neg (Bool.eq_false_iff.2 ho), hrec (n, u + 1) (by simp only; omega) (by simp only; omega)]
    rw [if_neg ho] at hcs
    simp only [Option.some.injEq]; omega
  ·
   rw [br_neg (by simpa using hu)]
   have : u = t % C := by omega
   subst this
   simp
 rw [key]
 have hp := cnt_per (S := S) (O := O) (t := t % C) (k := t / C) h.pos
 rw [show t % C + C * (t / C) = t by omega] at hp
 rw [hp, Int.mul_comm O]
 simp only [Option.some.injEq]; omega
def awakeF (C S O lo hi : Int) : Int := cntF C S O (hi + 1) - cntF C S O lo
theorem awakeIn_c (h : okSleep C S O I) (hN : 30000 ≤ N) {lo hi : Int} (hl : 0 ≤ lo ∧ lo ≤ 1000000000) (hh : 0 ≤ hi ∧ hi ≤ 1000000000) (hlh : lo ≤ hi) : access_sleep_awakeIn N C S O I lo hi = some (awakeF C S O lo hi) := by
 obtain ⟨hC, hS, hO, hI⟩ := id h
 unfold access_sleep_awakeIn
 rw [w64_id (n := hi + 1) (by omega), before_c h hN (by omega), before_c h hN (by omega)]
 simp only [bnd_val]
 have h1 := cnt_bd (S := S) (O := O) (a := 0) (b := hi + 1) h.pos (by omega) (by omega)
 have h2 := cnt_bd (S := S) (O := O) (a := 0) (b := lo) h.pos (by omega) (by omega)
 rw [w64_id (by omega)]
 simp only [Option.some.injEq, awakeF]; omega
theorem wakes_c (h : okSleep C S O I) {lo hi : Int} (hl : 0 ≤ lo ∧ lo ≤ 1000000000) (hh : 0 ≤ hi ∧ hi ≤ 1000000000) (hlh : lo ≤ hi) : access_sleep_wakes N C S O I lo hi = some (wakesF C S O lo hi) := by
 obtain ⟨hC, hS, hO, hI⟩ := id h
 have hs := since_bd (S := S) (t := lo) h.pos
 have ht := wakes_tail (S := S) (lo := lo) (hi := hi) h.pos hlh
 have key : ∀ n : Int, 0 ≤ n ∧ n ≤ 1 → br (O == C) (some n) (bnd (access_sleep_since N C S O I lo) fun x2 => br (decide (w64 (w64 (lo + C) - x2) ≤ hi)) (chk (C ≠ 0) <| some (w64 (n + w64 (w64 ((w64 (hi - w64 (w64 (lo + C) - x2))).tdiv C) + 1)))) (some n)) = some (n + if O < C then (hi - S) / C - (lo - S) / C else 0) := by
  intro n hn
  by_cases hOC : O = C
  · rw [br_pos (by simpa using hOC), if_neg (by omega), Int.add_zero]
  ·
   rw [br_neg (by simpa using hOC), if_pos (by omega), since_c h (by omega)]
   simp only [bnd_val]
   rw [w64_id (n := lo + C) (by omega), w64_id (n := lo + C - sinceF C S lo) (by omega)]
   by_cases hb : lo + C - sinceF C S lo ≤ hi
   ·
    rw [br_pos (by simpa using hb), chk_pos (by omega), w64_id (n := hi - (lo + C - sinceF C S lo)) (by omega)]
    have h2 := tdivP (t := hi - (lo + C - sinceF C S lo)) h.pos (by omega)
    rw [h2.1, w64_id (n := (hi - (lo + C - sinceF C S lo)) / C) (by omega), w64_id (n := (hi - (lo + C - sinceF C S lo)) / C + 1) (by omega), w64_id (by omega)]
    rw [if_pos hb] at ht
    rw [ht]
   ·
    rw [br_neg (by simpa using hb)]
    rw [if_neg hb] at ht
    rw [← ht, Int.add_zero]
 unfold access_sleep_wakes jn
 rw [on_c h (by omega)]
 simp only [bnd_val]
 unfold wakesF
 by_cases ho : onF C S O lo = true
 · rw [br_pos ho, if_pos ho]; exact key 1 (by omega)
 · rw [br_neg (Bool.eq_false_iff.2 ho), if_neg ho]; exact key 0 (by omega)
end
end
end Go.Sh

/-
 The laws of sleep: both sides agree; ranges are summed up.
-/
namespace Go.Sh
open Go.PW
noncomputable section
section
variable {N : Nat} {C S O I : Int}
theorem sleepE_ok (h : okSleep C S O I) : sleepE C S O I = 0 := if_pos h
theorem tickE_ok {t : Int} (h : 0 ≤ t ∧ t ≤ 1000000000) : tickE t = 0 := if_pos h
def actF (I t l : Int) : Bool := (l != -1) && inB (t - l) 0 (I - 1)
theorem and_self_l (a b : Bool) : (a && (a && b)) = (a && b) := by cases a <;> rfl
theorem or_not_and (a b : Bool) : (a || (!a && b)) = (a || b) := by cases a <;> cases b <;> rfl
theorem AwakeAt_c {t l : Int} (hN : 10 ≤ N) (h : okSleep C S O I) (ht : 0 ≤ t ∧ t ≤ 1000000000) (hl : l = -1 ∨ (0 ≤ l ∧ l ≤ 1000000000)) : access_AwakeAt N C S O I t l = some (actF I t l || onF C S O t, 0) := by
 obtain ⟨hC, hS, hO, hI⟩ := id h
 have hle : ((if ((l == -1) || (if (!(l == -1)) = true then inB l 0 1000000000 else false)) = true then 0 else 2) : Int) = 0 := by
  by_cases h1 : l = -1
  · simp [h1]
  ·
   have : (l == -1) = false := by simpa using h1
   simp only [this, Bool.not_false, if_true, Bool.false_or, inB_true]
   rw [if_pos (hl.resolve_left h1)]
 unfold access_AwakeAt
 simp only [CheckSleep_eq, tickErr_eq, isTick_eq, unless_eq, bnd_val, grd_val, within_eq]
 rw [first_eq (by simp; omega) (by simp), hle, sleepE_ok h, tickE_ok ht]
 simp only [firstF, if_true, bnd_val]
 rw [br_neg (by simp), w64_id (n := t - l) (by omega), w64_id (n := I - 1) (by omega), on_c h (by omega)]
 simp only [grd_val, bnd_val, ite_and_false, and_self_l, or_not_and, actF]
theorem ticks_ok {lo hi : Int} (h : ticksE lo hi = 0) : (0 ≤ lo ∧ lo ≤ 1000000000) ∧ (0 ≤ hi ∧ hi ≤ 1000000000) ∧ lo ≤ hi := by
 unfold ticksE tickE firstF firstF firstF firstF at h
 by_cases h1 : 0 ≤ lo ∧ lo ≤ 1000000000 <;> by_cases h2 : 0 ≤ hi ∧ hi ≤ 1000000000 <;> by_cases h3 : lo ≤ hi <;> simp_all
theorem AwakeIn_c {lo hi : Int} (hN : 30000 ≤ N) (h : okSleep C S O I) (ht : ticksE lo hi = 0) : access_AwakeIn N C S O I lo hi = some (awakeF C S O lo hi, 0) := by
 obtain ⟨h1, h2, h3⟩ := ticks_ok ht
 unfold access_AwakeIn
 simp only [CheckSleep_eq, ticksErr_eq (show 10 ≤ N by omega), bnd_val]
 rw [first_eq (by simp; omega) (by simp), sleepE_ok h, ht]
 simp only [firstF, if_true, bnd_val]
 rw [br_neg (by simp), awakeIn_c h hN h1 h2 h3]
 rfl
def enW (on wk lo hi a z w : Int) : Int := w64 ((w64 ((w64 (on * a)) + (w64 ((w64 ((w64 ((w64 (hi - lo)) + (1 : Int))) - on)) * z)))) + (w64 (wk * w)))
theorem isPow_eq (n : Int) : access_EnergyOf_1 N n = some (inB n 0 1000) := rfl
theorem Energy_c {lo hi a z w : Int} (hN : 30000 ≤ N) (h : okSleep C S O I) (ht : ticksE lo hi = 0) (hp0 : powE a z w = 0) : access_EnergyOf N C S O I lo hi a z w = some (enW (awakeF C S O lo hi) (wakesF C S O lo hi) lo hi a z w, 0) := by
 obtain ⟨h1, h2, h3⟩ := ticks_ok ht
 unfold access_EnergyOf
 simp only [CheckSleep_eq, ticksErr_eq (show 10 ≤ N by omega), bnd_val, isPow_eq, grd_val, unless_eq, ite_and_false]
 have hp : ((inB a 0 1000 && (inB a 0 1000 && inB z 0 1000)) && ((inB a 0 1000 && (inB a 0 1000 && inB z 0 1000)) && inB w 0 1000)) = ((inB a 0 1000 && inB z 0 1000) && inB w 0 1000) := by
  cases inB a 0 1000 <;> cases inB z 0 1000 <;> cases inB w 0 1000 <;> rfl
 rw [hp, powB]
 simp only [decide_eq_true_eq]
 rw [first_eq (by simp; omega) (by simp), show (if (0 ≤ a ∧ a ≤ 1000) ∧ (0 ≤ z ∧ z ≤ 1000) ∧ 0 ≤ w ∧ w ≤ 1000 then (0 : Int) else 2) = powE a z w from rfl, sleepE_ok h, ht, hp0]
 simp only [firstF, if_true, bnd_val]
 rw [br_neg (by simp), awakeIn_c h hN h1 h2 h3, wakes_c h h1 h2 h3]
 rfl
end
end
end Go.Sh

/-
 The law of sums.
-/
namespace Go.Sh
open Go.PW
noncomputable section
section
variable {N : Nat} {C S O I : Int}
def enF (on wk lo hi a z w : Int) : Int := on * a + (hi - lo + 1 - on) * z + wk * w
theorem mul_le {a b A B : Int} (ha : 0 ≤ a ∧ a ≤ A) (hb : 0 ≤ b ∧ b ≤ B) : 0 ≤ a * b ∧ a * b ≤ A * B :=
 ⟨Int.mul_nonneg ha.1 hb.1, Int.mul_le_mul ha.2 hb.2 hb.1 (by omega)⟩
theorem enW_eq {on wk lo hi a z w : Int} (hl : 0 ≤ lo ∧ lo ≤ 1000000000) (hh : 0 ≤ hi ∧ hi ≤ 1000000000) (hlh : lo ≤ hi) (hon : 0 ≤ on ∧ on ≤ hi + 1 - lo) (hwk : 0 ≤ wk ∧ wk ≤ hi - lo + 2) (ha : 0 ≤ a ∧ a ≤ 1000) (hz : 0 ≤ z ∧ z ≤ 1000) (hw : 0 ≤ w ∧ w ≤ 1000) :
  enW on wk lo hi a z w = enF on wk lo hi a z w ∧ 0 ≤ enF on wk lo hi a z w ∧ enF on wk lo hi a z w ≤ 10000000000000 := by
 have h1 := mul_le (A := 1000000001) (B := 1000) (show 0 ≤ on ∧ on ≤ 1000000001 by omega) ha
 have h2 := mul_le (A := 1000000001) (B := 1000) (show 0 ≤ hi - lo + 1 - on ∧ hi - lo + 1 - on ≤ 1000000001 by omega) hz
 have h3 := mul_le (A := 1000000002) (B := 1000) (show 0 ≤ wk ∧ wk ≤ 1000000002 by omega) hw
 unfold enW enF
 rw [w64_id (n := on * a) (by omega), w64_id (n := hi - lo) (by omega), w64_id (n := hi - lo + 1) (by omega), w64_id (n := hi - lo + 1 - on) (by omega), w64_id (n := (hi - lo + 1 - on) * z) (by omega), w64_id (n := wk * w) (by omega),
  w64_id (n := on * a + (hi - lo + 1 - on) * z) (by omega), w64_id (by omega)]
 exact ⟨rfl, by omega, by omega⟩
end
end
end Go.Sh

/-
 Paging: what the functions of both sides come to.
-/
namespace Go.Sh
open Go.PW
noncomputable section
theorem pow2 : ∀ n : Fin 257, 1 ≤ n.val → ((andI (n.val : Int) (w64 ((n.val : Int) - 1)) = 0) ↔ (256 : Int) % (n.val : Int) = 0) := by
 have h : ∀ n : Fin 257, 1 ≤ n.val → (((BitVec.ofInt 64 (n.val : Int) &&& BitVec.ofInt 64 ((n.val : Int) - 1)).toNat = 0) ↔ (256 : Int) % (n.val : Int) = 0) := by decide +kernel
 intro n hn
 have hb : (BitVec.ofInt 64 (n.val : Int) &&& BitVec.ofInt 64 ((n.val : Int) - 1)).toNat ≤ n.val := by
  rw [BitVec.toNat_and]
  refine Nat.le_trans Nat.and_le_left ?_
  rw [BitVec.toNat_ofInt]
  have := n.isLt
  rw [Int.emod_eq_of_lt (by omega) (by omega)]
  omega
 unfold andI
 have := n.isLt
 rw [w64_id (n := (n.val : Int) - 1) (by omega), w64_id (by omega), ← h n hn]
 omega
theorem pow2' {C : Int} (h : 1 ≤ C ∧ C ≤ 256) : (andI C (w64 (C - 1)) == 0) = decide (256 % C = 0) := by
 have := pow2 ⟨C.toNat, by omega⟩ (by show 1 ≤ C.toNat; omega)
 have e : ((C.toNat : Nat) : Int) = C := by omega
 simp only [e] at this
 rw [Bool.eq_iff_iff, beq_iff_eq, decide_eq_true_eq]
 exact this
def okPg (C F O P : Int) : Prop := (1 ≤ C ∧ C ≤ 256) ∧ 256 % C = 0 ∧ (1 ≤ F ∧ F ≤ C) ∧ C % F = 0 ∧ (O = 1 ∨ O = 2 ∨ O = 4) ∧ 0 ≤ P ∧ P ≤ C - 1
def pgE (C F O P : Int) : Int := if ¬ (1 ≤ C ∧ C ≤ 256) then 2 else if ¬ 256 % C = 0 then 3 else if ¬ (1 ≤ F ∧ F ≤ C) then 2 else if ¬ C % F = 0 then 3 else if ¬ (O = 1 ∨ O = 2 ∨ O = 4) then 15 else if ¬ (0 ≤ P ∧ P ≤ C - 1) then 2 else 0
theorem pgE_zero {C F O P : Int} : pgE C F O P = 0 ↔ okPg C F O P := by
 unfold pgE okPg
 by_cases h1 : 1 ≤ C ∧ C ≤ 256
 rotate_left
 · rw [if_pos h1]; exact ⟨fun h => (by cases h), fun h => absurd h.1 h1⟩
 rw [if_neg (fun h => h h1)]
 by_cases h2 : 256 % C = 0
 rotate_left
 · rw [if_pos h2]; exact ⟨fun h => (by cases h), fun h => absurd h.2.1 h2⟩
 rw [if_neg (fun h => h h2)]
 by_cases h3 : 1 ≤ F ∧ F ≤ C
 rotate_left
 · rw [if_pos h3]; exact ⟨fun h => (by cases h), fun h => absurd h.2.2.1 h3⟩
 rw [if_neg (fun h => h h3)]
 by_cases h4 : C % F = 0
 rotate_left
 · rw [if_pos h4]; exact ⟨fun h => (by cases h), fun h => absurd h.2.2.2.1 h4⟩
 rw [if_neg (fun h => h h4)]
 by_cases h5 : O = 1 ∨ O = 2 ∨ O = 4
 rotate_left
 · rw [if_pos h5]; exact ⟨fun h => (by cases h), fun h => absurd h.2.2.2.2.1 h5⟩
 rw [if_neg (fun h => h h5)]
 by_cases h6 : 0 ≤ P ∧ P ≤ C - 1
 · rw [if_neg (fun h => h h6)]; exact ⟨fun _ => ⟨h1, h2, h3, h4, h5, h6⟩, fun _ => rfl⟩
 · rw [if_pos h6]; exact ⟨fun h => (by cases h), fun h => absurd h.2.2.2.2.2 h6⟩
def plF (O : Int) : List Int := if O = 1 then [9] else if O = 2 then [4, 9] else if O = 4 then [0, 4, 5, 9] else []
theorem places_eq (N : Nat) (O : Int) : access_places N O = some (plF O) := by
 unfold access_places plF
 by_cases h1 : O = 1
 · rw [br_pos (by simpa using h1), if_pos h1]; rfl
 rw [br_neg (by simpa using h1), if_neg h1]
 by_cases h2 : O = 2
 · rw [br_pos (by simpa using h2), if_pos h2]; rfl
 rw [br_neg (by simpa using h2), if_neg h2]
 by_cases h4 : O = 4
 · rw [br_pos (by simpa using h4), if_pos h4]; rfl
 rw [br_neg (by simpa using h4), if_neg h4]
theorem plF_ne {O : Int} : (!(plF O).isEmpty) = decide (O = 1 ∨ O = 2 ∨ O = 4) := by
 unfold plF
 by_cases h1 : O = 1
 · subst h1; rfl
 by_cases h2 : O = 2
 · subst h2; rfl
 by_cases h4 : O = 4
 · subst h4; rfl
 simp [h1, h2, h4]
theorem inB_dec (n lo hi : Int) : inB n lo hi = decide (lo ≤ n ∧ n ≤ hi) := by unfold inB; rw [Bool.decide_and]
theorem CheckPaging_eq {N : Nat} (hN : 10 ≤ N) (C F O P : Int) : access_CheckPaging N C F O P = some (pgE C F O P) := by
 unfold access_CheckPaging
 simp only [within_eq, unless_eq, bnd_val, inB_dec, places_eq, plF_ne, decide_eq_true_eq]
 rw [first_eq (by simp; omega) (by simp)]
 simp only [bnd_val]
 unfold pgE
 by_cases h1 : 1 ≤ C ∧ C ≤ 256
 rotate_left
 ·
  rw [if_neg h1, if_pos h1]
  rw [br_pos (by simp [firstF])]; simp [firstF]
 rw [pow2' h1, if_pos h1, if_neg (c := ¬ (1 ≤ C ∧ C ≤ 256)) (fun h => h h1)]
 simp only [decide_eq_true_eq]
 by_cases h2 : 256 % C = 0
 rotate_left
 ·
  rw [if_neg h2, if_pos h2]
  rw [br_pos (by simp [firstF])]; simp [firstF]
 rw [if_pos h2, if_neg (c := ¬ 256 % C = 0) (fun h => h h2)]
 by_cases h3 : 1 ≤ F ∧ F ≤ C
 rotate_left
 ·
  rw [if_neg h3, if_pos h3]
  rw [br_pos (by simp [firstF])]; simp [firstF]
 rw [if_pos h3, if_neg (c := ¬ (1 ≤ F ∧ F ≤ C)) (fun h => h h3)]
 rw [br_neg (by simp [firstF]), chk_pos (by omega), first_eq (by simp; omega) (by simp), Int.tmod_eq_emod_of_nonneg (by omega), w64_id (by omega)]
 simp only [bnd_val, beq_iff_eq, decide_eq_true_eq]
 by_cases h4 : C % F = 0
 rotate_left
 · rw [if_neg h4, if_pos h4]; simp [firstF]
 rw [if_pos h4, if_neg (c := ¬ C % F = 0) (fun h => h h4)]
 by_cases h5 : O = 1 ∨ O = 2 ∨ O = 4
 rotate_left
 · rw [if_neg h5, if_pos h5]; simp [firstF]
 rw [if_pos h5, if_neg (c := ¬ (O = 1 ∨ O = 2 ∨ O = 4)) (fun h => h h5)]
 by_cases h6 : 0 ≤ P ∧ P ≤ C - 1
 · rw [if_pos h6, if_neg (fun h => h h6)]; simp [firstF]
 · rw [if_neg h6, if_pos h6]; simp [firstF]
theorem CheckPagingR_eq (N : Nat) (C F O P : Int) : ref07_CheckPaging N C F O P = some (pgE C F O P) := by
 unfold ref07_CheckPaging
 simp only [Within_eq, bnd_val, inB_dec]
 unfold pgE
 by_cases h1 : 1 ≤ C ∧ C ≤ 256
 rotate_left
 · rw [if_pos h1, br_pos (by rw [decide_eq_false h1]; rfl)]
 rw [br_neg (by simp [h1]), if_neg (c := ¬ (1 ≤ C ∧ C ≤ 256)) (fun h => h h1), chk_pos (by omega), Int.tmod_eq_emod_of_nonneg (by omega)]
 by_cases h2 : 256 % C = 0
 rotate_left
 · rw [if_pos h2, br_pos (by simpa using h2)]
 rw [br_neg (by simp [h2]), if_neg (c := ¬ 256 % C = 0) (fun h => h h2)]
 by_cases h3 : 1 ≤ F ∧ F ≤ C
 rotate_left
 · rw [if_pos h3, br_pos (by rw [decide_eq_false h3]; rfl)]
 rw [br_neg (by simp [h3]), if_neg (c := ¬ (1 ≤ F ∧ F ≤ C)) (fun h => h h3), chk_pos (by omega), Int.tmod_eq_emod_of_nonneg (by omega)]
 by_cases h4 : C % F = 0
 rotate_left
 · rw [if_pos h4, br_pos (by simpa using h4)]
 rw [br_neg (by simp [h4]), if_neg (c := ¬ C % F = 0) (fun h => h h4)]
 by_cases h5 : O = 1 ∨ O = 2 ∨ O = 4
 rotate_left
 · rw [if_pos h5, br_pos (by simp only [Bool.and_eq_true, bne_iff_ne]; omega)]
 rw [br_neg (by rcases h5 with h | h | h <;> simp [h]), if_neg (c := ¬ (O = 1 ∨ O = 2 ∨ O = 4)) (fun h => h h5), w64_id (by omega)]
 by_cases h6 : 0 ≤ P ∧ P ≤ C - 1
 · rw [br_neg (by simp [h6]), if_neg (fun h => h h6)]
 · rw [br_pos (by rw [decide_eq_false h6]; rfl), if_pos h6]
def numE (n : Int) : Int := if 0 ≤ n ∧ n ≤ 1000000 then 0 else 2
theorem NumberErr_eq (N : Nat) (n : Int) : ref07_NumberErr N n = some (numE n) := by
 unfold ref07_NumberErr
 simp only [Within_eq, bnd_val, br_val, numE, inB_dec]
 by_cases h : 0 ≤ n ∧ n ≤ 1000000 <;> simp [h]
theorem firstF_two (a b : Int) (l : List Int) : firstF (firstF [a, b] :: l) = firstF (a :: b :: l) := by
 by_cases ha : a = 0
 ·
  by_cases hb : b = 0
  · simp [firstF, ha, hb]
  · simp [firstF, ha, hb]
 · simp [firstF, ha]
theorem pagingErr_eq {N : Nat} (hN : 10 ≤ N) (C F O P : Int) (l : List Int) (hl : l.length < 5) : access_pagingErr N C F O P l = some (firstF (pgE C F O P :: l.map numE)) := by
 unfold access_pagingErr
 rw [CheckPaging_eq hN]
 simp only [bnd_val]
 have key : rds (access_pagingErr.b1 N l fun e => some e) N (pgE C F O P, (0 : Int)) = some (firstF (pgE C F O P :: (l.drop (0 : Int).toNat).map numE)) := by
  refine rds_spec (fun x : Int × Int => 0 ≤ x.2 ∧ x.2 ≤ l.length) (fun x => l.length - x.2.toNat) (fun x => some (firstF (x.1 :: (l.drop x.2.toNat).map numE))) (fun rec x hk hrec => ?_) N (pgE C F O P, 0) (by simp) (by simp; omega)
  obtain ⟨e, k⟩ := x
  simp only at hk
  unfold access_pagingErr.b1
  dsimp only
  by_cases h : k < (l.length : Int)
  ·
   have hkn : k.toNat < l.length := by omega
   have hd : l.drop k.toNat = l.getD k.toNat 0 :: l.drop (k.toNat + 1) := by
    rw [List.drop_eq_getElem_cons hkn]
    simp [List.getD_eq_getElem?_getD, hkn]
   rw [br_pos (by simpa using h), chk_pos (by omega)]
   simp only [within_eq, unless_eq, bnd_val, inB_dec, decide_eq_true_eq]
   rw [first_eq (by simp; omega) (by simp)]
   simp only [bnd_val]
   rw [w64_id (by omega), hrec (_, k + 1) ⟨by show 0 ≤ k + 1; omega, by show k + 1 ≤ _; omega⟩ (by show l.length - (k + 1).toNat < l.length - k.toNat; omega)]
   show some (firstF (firstF [e, numE (l.getD k.toNat 0)] :: _)) = _
   rw [firstF_two, hd, List.map_cons, show (k + 1).toNat = k.toNat + 1 by omega]
  ·
   rw [br_neg (by simpa using h)]
   rw [List.drop_eq_nil_of_le (by omega)]
   by_cases he : e = 0 <;> simp [firstF, he]
 exact key
def occE (f s : Int) : Int := if (0 ≤ f ∧ f ≤ 1023) ∧ 0 ≤ s ∧ s ≤ 9 then 0 else 2
theorem occErr_eq (N : Nat) (f s : Int) : access_occasionErr N f s = some (occE f s) := by
 unfold access_occasionErr occE
 simp only [within_eq, unless_eq, bnd_val, grd_val, inB_dec]
 by_cases h1 : 0 ≤ f ∧ f ≤ 1023 <;> by_cases h2 : 0 ≤ s ∧ s ≤ 9 <;> simp [h1, h2]
theorem occErrR_eq (N : Nat) (f s : Int) : ref07_OccasionErr N f s = some (occE f s) := by
 unfold ref07_OccasionErr occE
 simp only [Within_eq, bnd_val, grd_val, br_val, inB_dec]
 by_cases h1 : 0 ≤ f ∧ f ≤ 1023 <;> by_cases h2 : 0 ≤ s ∧ s ≤ 9 <;> simp [h1, h2]
def xF (C F P ph : Int) : Int := (C / F * (ph % F) + C - P) % C
def xS (F O ph : Int) : Int := (plF O).getD ((ph / F) % O).toNat 0
section
variable {N : Nat} {C F O P : Int}
theorem okPg.dvd (h : okPg C F O P) : C ∣ 1024 := by
 obtain ⟨k, hk⟩ := Int.dvd_of_emod_eq_zero h.2.1
 exact ⟨k * 4, by rw [← Int.mul_assoc, ← hk]; rfl⟩
theorem okPg.q (h : okPg C F O P) (ph : Int) : 0 ≤ C / F * (ph % F) ∧ C / F * (ph % F) < C ∧ 0 ≤ C / F ∧ C / F ≤ C := by
 obtain ⟨h1, _, h3, h4, _⟩ := h
 have hF : 0 < F := by omega
 have hm := dm (n := ph) hF
 have hd := dm (n := C) hF
 rw [h4] at hd
 have h0 : 0 ≤ C / F := Int.ediv_nonneg (by omega) (by omega)
 have hp : 0 < C / F := by
  rcases Int.lt_or_eq_of_le h0 with h | h
  · exact h
  · rw [← h] at hd; omega
 have hc : C / F * F = C := by rw [Int.mul_comm]; omega
 refine ⟨Int.mul_nonneg h0 hm.2.1, ?_, h0, Int.ediv_le_self _ (by omega)⟩
 have := Int.mul_lt_mul_of_pos_left hm.2.2 hp
 omega
theorem okPg.xF (h : okPg C F O P) (ph : Int) : 0 ≤ xF C F P ph ∧ xF C F P ph < C := ⟨Int.emod_nonneg _ (by have := h.1; omega), Int.emod_lt_of_pos _ (by have := h.1; omega)⟩
theorem okPg.len (h : okPg C F O P) : ((plF O).length : Int) = O := by
 rcases h.2.2.2.2.1 with h | h | h <;> subst h <;> rfl
theorem plF_bd (O : Int) (n : Nat) : 0 ≤ (plF O).getD n 0 ∧ (plF O).getD n 0 ≤ 9 := by
 unfold plF
 split
 ·
  match n with
  | 0 => decide
  | n + 1 => simp
 split
 ·
  match n with
  | 0 => decide
  | 1 => decide
  | n + 2 => simp
 split
 ·
  match n with
  | 0 => decide
  | 1 => decide
  | 2 => decide
  | 3 => decide
  | n + 4 => simp
 · simp
theorem xS_bd (F O ph : Int) : 0 ≤ xS F O ph ∧ xS F O ph ≤ 9 := plF_bd O _
theorem quo (h : okPg C F O P) {ph : Int} (hp : 0 ≤ ph ∧ ph ≤ 1000000) : w64 (ph.tdiv F) = ph / F ∧ 0 ≤ ph / F := by
 obtain ⟨h1, h2⟩ := (tdivP (C := F) (by have := h.2.2.1; omega) hp.1)
 rw [h1, w64_id (by omega)]; exact ⟨rfl, h2.1⟩
theorem occasion_c (h : okPg C F O P) {ph : Int} (hp : 0 ≤ ph ∧ ph ≤ 1000000) : access_occasion N C F O P ph = some (xF C F P ph, xS F O ph) := by
 have hq := h.q ph
 have hO : 0 < O := by rcases h.2.2.2.2.1 with h | h | h <;> omega
 obtain ⟨h1, _, h3, _, _, h6⟩ := id h
 obtain ⟨e1, e2⟩ := quo h hp
 have hm := tmodP (C := O) hO e2
 unfold access_occasion
 rw [places_eq]
 simp only [bnd_val]
 rw [chk_pos (by omega), chk_pos (by omega), chk_pos (by omega), chk_pos (by omega), h.len, e1, chk_pos (by omega), chk_pos (by omega)]
 rw [Int.tdiv_eq_ediv_of_nonneg (a := C) (by omega), Int.tmod_eq_emod_of_nonneg (a := ph) hp.1, w64_id (n := C / F) (by omega), w64_id (n := C / F * (ph % F)) (by omega), w64_id (n := C / F * (ph % F) + C) (by omega), w64_id (by omega), Int.tmod_eq_emod_of_nonneg (by omega), hm.1]
 rfl
theorem beqD (a b : Int) : (a == b) = decide (a = b) := rfl
def isF (C F O P ph f s : Int) : Bool := decide (f % C = xF C F P ph) && decide (s = xS F O ph)
def nxF (C F O P ph f s : Int) : Int := occN C (xF C F P ph) (xS F O ph) f s % 1024
theorem OccasionOf_c {ph : Int} (hN : 10 ≤ N) (h : okPg C F O P) (hp : 0 ≤ ph ∧ ph ≤ 1000000) : access_OccasionOf N C F O P ph = some (xF C F P ph, xS F O ph, 0) := by
 unfold access_OccasionOf
 rw [pagingErr_eq hN _ _ _ _ _ (by simp), List.map_cons, List.map_nil, pgE_zero.2 h, show numE ph = 0 from if_pos hp]
 simp only [bnd_val, firstF, if_true]
 rw [br_neg (by simp), occasion_c h hp]
 rfl
theorem IsOccasion_c {ph f s : Int} (hN : 10 ≤ N) (h : okPg C F O P) (hp : 0 ≤ ph ∧ ph ≤ 1000000) (hf : 0 ≤ f ∧ f ≤ 1023) (hs : 0 ≤ s ∧ s ≤ 9) : access_IsOccasion N C F O P ph f s = some (isF C F O P ph f s, 0) := by
 unfold access_IsOccasion
 rw [pagingErr_eq hN _ _ _ _ _ (by simp), List.map_cons, List.map_nil, occErr_eq]
 simp only [bnd_val]
 rw [first_eq (by simp; omega) (by simp), firstF_two, pgE_zero.2 h, show numE ph = 0 from if_pos hp, show occE f s = 0 from if_pos ⟨hf, hs⟩]
 simp only [bnd_val, firstF, if_true]
 rw [br_neg (by simp), chk_pos (by have := h.1; omega), occasion_c h hp, Int.tmod_eq_emod_of_nonneg hf.1]
 simp only [bnd_val, isF, beqD]
theorem NextOccasion_c {ph f s : Int} (hN : 10 ≤ N) (h : okPg C F O P) (hp : 0 ≤ ph ∧ ph ≤ 1000000) (hf : 0 ≤ f ∧ f ≤ 1023) (hs : 0 ≤ s ∧ s ≤ 9) : access_NextOccasion N C F O P ph f s = some (nxF C F O P ph f s, xS F O ph, 0) := by
 have hx := h.xF ph
 have hC : 0 < C := by have := h.1; omega
 have hC2 := h.1.2
 have key : ∀ g : Int, 0 ≤ g ∧ g ≤ 1024 → (w64 (g + (w64 (w64 (xF C F P ph - g.tmod C) + C)).tmod C)).tmod 1024 = (g + gapF C (xF C F P ph) g) % 1024 := fun g hg => by
  have hb := gap_bd (xF := xF C F P ph) (f := g) hC
  have hm := tmodP (t := g) hC hg.1
  rw [w64_id (n := xF C F P ph - g.tmod C) (by omega), w64_id (n := xF C F P ph - g.tmod C + C) (by omega), gap_eq hC hx hg.1, w64_id (by omega), Int.tmod_eq_emod_of_nonneg (by omega)]
 unfold access_NextOccasion
 rw [pagingErr_eq hN _ _ _ _ _ (by simp), List.map_cons, List.map_nil, occErr_eq]
 simp only [bnd_val]
 rw [first_eq (by simp; omega) (by simp), firstF_two, pgE_zero.2 h, show numE ph = 0 from if_pos hp, show occE f s = 0 from if_pos ⟨hf, hs⟩]
 simp only [bnd_val, firstF, if_true]
 rw [br_neg (by simp), occasion_c h hp]
 simp only [bnd_val]
 rw [w64_id (n := f + 1) (by omega)]
 unfold nxF occN
 by_cases c : xS F O ph < s
 · rw [br_pos (by simpa using c), chk_pos (by omega), chk_pos (by omega), key (f + 1) (by omega), if_pos c]
 · rw [br_neg (by simpa using c), chk_pos (by omega), chk_pos (by omega), key f (by omega), if_neg c]
theorem Together_c {a b : Int} (hN : 10 ≤ N) (h : okPg C F O P) (ha : 0 ≤ a ∧ a ≤ 1000000) (hb : 0 ≤ b ∧ b ≤ 1000000) : access_Together N C F O P a b = some ((xF C F P a == xF C F P b) && (xS F O a == xS F O b), 0) := by
 unfold access_Together
 rw [pagingErr_eq hN _ _ _ _ _ (by simp), List.map_cons, List.map_cons, List.map_nil, pgE_zero.2 h, show numE a = 0 from if_pos ha, show numE b = 0 from if_pos hb]
 simp only [bnd_val, firstF, if_true]
 rw [br_neg (by simp), occasion_c h ha, occasion_c h hb]
 rfl
end
end
end Go.Sh

/-
 The laws of paging: both sides agree; a paged phone sleeps as its occasions say.
-/
namespace Go.Sh
open Go.PW
noncomputable section
section
variable {N : Nat} {C F O P : Int}
theorem numE_zero {n : Int} : numE n = 0 ↔ 0 ≤ n ∧ n ≤ 1000000 := by unfold numE; split <;> simp_all
theorem occE_zero {f s : Int} : occE f s = 0 ↔ (0 ≤ f ∧ f ≤ 1023) ∧ 0 ≤ s ∧ s ≤ 9 := by unfold occE; split <;> simp_all
end
end
end Go.Sh

/-
 A paged phone sleeps as its occasions say.
-/
namespace Go.Sh
open Go.PW
noncomputable section
section
variable {N : Nat} {C F O P : Int}
theorem SleepOf_c {ph : Int} (hN : 10 ≤ N) (h : okPg C F O P) (hp : 0 ≤ ph ∧ ph ≤ 1000000) : access_SleepOf N C F O P ph = some (10 * C, 10 * xF C F P ph + xS F O ph, 1, 0, 0) := by
 have hx := h.xF ph
 have hxs := xS_bd F O ph
 have hC := h.1
 unfold access_SleepOf
 rw [pagingErr_eq hN _ _ _ _ _ (by simp), List.map_cons, List.map_nil, pgE_zero.2 h, show numE ph = 0 from if_pos hp]
 simp only [bnd_val, firstF, if_true]
 rw [br_neg (by simp), occasion_c h hp]
 simp only [bnd_val]
 rw [w64_id (n := 10 * C) (by omega), w64_id (n := 10 * xF C F P ph) (by omega), w64_id (by omega)]
end
end
end Go.Sh

/-
 Site and phone reckon alike.
-/
namespace Go.Sh
open Go.PW
noncomputable section
section
variable {N : Nat} {C F O P : Int}
def atF (C xF i : Int) : Int := (xF + C * i) % 1024
theorem next_cycle (h : okPg C F O P) {ph f : Int} (hf : 0 ≤ f ∧ f ≤ 1023) (hx : f % C = xF C F P ph) : nxF C F O P ph ((f + 1) % 1024) 0 = (f + C) % 1024 := by
 have hd := h.dvd
 have hC : 0 < C := by have := h.1; omega
 have hxs := xS_bd F O ph
 have hxx := h.xF ph
 have hg : gapF C (xF C F P ph) (f + 1) = C - 1 := by
  unfold gapF
  have h0 := (gap_zero hC hxx).2 hx
  unfold gapF at h0
  have hm := dm (n := xF C F P ph - f) hC
  exact (dm_of hC (q := (xF C F P ph - f) / C - 1) (by rw [Int.mul_sub]; omega) (by omega) (by omega)).2
 unfold nxF occN
 rw [if_neg (by omega), gap_ring hd, hg]
 have hm := dm (n := f + 1) (b := 1024) (by decide)
 have e : f + C = ((f + 1) % 1024 + (C - 1)) + 1024 * ((f + 1) / 1024) := by omega
 rw [e, mod_add_mul]
theorem law_TopAccessAlike (hN : 30000 ≤ N) (a b aw z w : Int) : top_TopAccessAlike N C F O P a b aw z w = some true := by
 have hN10 : 10 ≤ N := by omega
 unfold top_TopAccessAlike
 simp only [downtilttop_accessAwake, bnd_val, Bool.not_true, br_false, CheckPagingR_eq, NumberErr_eq, PowersErr_eq, grd_val]
 by_cases hp0 : pgE C F O P = 0
 rotate_left
 · rw [br_pos (by simp [hp0])]
 by_cases h32 : C < 32
 · rw [br_pos (by simp [h32])]
 by_cases ha0 : numE a = 0
 rotate_left
 · rw [br_pos (by simp [hp0, h32, ha0])]
 by_cases hb0 : numE b = 0
 rotate_left
 · rw [br_pos (by simp [hp0, h32, ha0, hb0])]
 by_cases hw0 : powE aw z w = 0
 rotate_left
 · rw [br_pos (by simp [hp0, h32, ha0, hb0, hw0])]
 rw [br_neg (by simp [hp0, ha0, hb0, hw0]; omega)]
 have h := pgE_zero.1 hp0
 have ha := numE_zero.1 ha0
 have hb := numE_zero.1 hb0
 have hC := h.1
 have hC0 : 0 < C := by omega
 have hx := h.xF a
 have hy := h.xF b
 have hxs := xS_bd F O a
 have hys := xS_bd F O b
 have hsl : okSleep (10 * C) (10 * xF C F P a + xS F O a) 1 0 := ⟨by omega, by omega, by omega, by omega⟩
 have hpp : (0 ≤ aw ∧ aw ≤ 1000) ∧ (0 ≤ z ∧ z ≤ 1000) ∧ 0 ≤ w ∧ w ≤ 1000 := by
  unfold powE at hw0
  split at hw0
  · assumption
  · cases hw0
 rw [OccasionOf_c hN10 h ha, SleepOf_c hN10 h ha, SleepOf_c hN10 h hb, Together_c hN10 h ha hb]
 simp only [bnd_val, grd_val, occErrR_eq, CheckSleepR_eq, sleepE_ok hsl, Within_eq]
 have hoe : occE (xF C F P a) (xS F O a) = 0 := occE_zero.2 ⟨⟨hx.1, by omega⟩, hxs⟩
 have hsame : ((xF C F P a == xF C F P b) && (xS F O a == xS F O b)) = ((10 * C == 10 * C) && ((10 * xF C F P a + xS F O a == 10 * xF C F P b + xS F O b) && (((1 : Int) == 1) && ((0 : Int) == 0)))) := by
  have e : (xF C F P a = xF C F P b ∧ xS F O a = xS F O b) ↔ 10 * xF C F P a + xS F O a = 10 * xF C F P b + xS F O b := by constructor <;> omega
  rw [Bool.eq_iff_iff]
  simp only [Bool.and_eq_true, beq_iff_eq, e, beq_self_eq_true, and_true, true_and]
 rw [hoe, ← hsame, w64_id (n := C - 1) (by omega), inB_true.2 (show 0 ≤ xF C F P a ∧ xF C F P a ≤ C - 1 by omega)]
 rw [br_neg (by simp), chk_pos (by omega)]
 obtain ⟨K, hK⟩ := h.dvd
 have hK0 : 0 < K := by
  by_cases h : 0 < K
  · exact h
  ·
   have := Int.mul_le_mul_of_nonneg_left (c := C) (Int.not_lt.1 h) (by omega)
   omega
 have hKb : K ≤ 1024 := by
  have := Int.mul_le_mul_of_nonneg_right (a := 1) (b := C) (c := K) (by omega) (by omega)
  omega
 have hdiv : (1024 : Int).tdiv C = K := by
  rw [Int.tdiv_eq_ediv_of_nonneg (by decide), hK, Int.mul_ediv_cancel_left _ (by omega)]
 unfold jn
 have key : ∀ R : Int × Int → Option Bool, rds (top_TopAccessAlike.b1 N C F O P a (10 * C) (10 * xF C F P a + xS F O a) 1 0 R) N (0, xF C F P a, xS F O a) = R (xF C F P a, xS F O a) := fun R => by
  refine rds_spec (fun x : Int × Int × Int => (0 ≤ x.1 ∧ x.1 ≤ K) ∧ x.2.1 = atF C (xF C F P a) x.1 ∧ x.2.2 = xS F O a) (fun x => (K - x.1).toNat) (fun _ => R (xF C F P a, xS F O a)) (fun rec x hI hrec => ?_) N _ ⟨⟨by omega, by show (0 : Int) ≤ K; omega⟩, ?_, rfl⟩ (by show (K - 0).toNat < N; omega)
  rotate_left
  ·
   show xF C F P a = (xF C F P a + C * 0) % 1024
   rw [Int.mul_zero, Int.add_zero, Int.emod_eq_of_lt hx.1 (by omega)]
  obtain ⟨i, f, s⟩ := x
  obtain ⟨hi, he, hs⟩ := hI
  simp only at hi he hs
  subst hs
  unfold top_TopAccessAlike.b1
  dsimp only
  rw [hdiv, w64_id (n := K) (by omega)]
  by_cases hik : i < K
  rotate_left
  ·
   have : i = K := by omega
   subst this
   rw [br_neg (by simp)]
   rw [he]
   unfold atF
   rw [← hK, Int.add_emod_right, Int.emod_eq_of_lt hx.1 (by omega)]
  ·
   have hm := dm (n := xF C F P a + C * i) (b := 1024) (by decide)
   have hf : 0 ≤ f ∧ f ≤ 1023 := by rw [he]; unfold atF; omega
   have hfx : f % C = xF C F P a := by
    rw [he]; unfold atF
    rw [ring_mod h.dvd, mod_add_mul, Int.emod_eq_of_lt hx.1 hx.2]
   have his : isF C F O P a f (xS F O a) = true := by unfold isF; simp [hfx]
   have hw : access_AwakeAt N (10 * C) (10 * xF C F P a + xS F O a) 1 0 (10 * f + xS F O a) (-1) = some (true, 0) := by
    rw [AwakeAt_c hN10 hsl (by omega) (.inl rfl)]
    have : actF 0 (10 * f + xS F O a) (-1) = false := rfl
    rw [this, Bool.false_or, occ_on hC0 hx hxs hxs]
    simp [hfx]
   have hm1 := dm (n := f + 1) (b := 1024) (by decide)
   rw [br_pos (by simpa using hik), IsOccasion_c hN10 h ha hf hxs, w64_id (n := 10 * f) (by omega), w64_id (n := 10 * f + xS F O a) (by omega), hw, w64_id (n := f + 1) (by omega), w64_id (n := f + C) (by omega), Int.tmod_eq_emod_of_nonneg (a := f + 1) (by omega), Int.tmod_eq_emod_of_nonneg (a := f + C) (by omega), NextOccasion_c hN10 h ha ⟨hm1.2.1, by omega⟩ (by omega), next_cycle h hf hfx, his]
   simp only [bnd_val]
   rw [br_neg (by simp), br_neg (by simp), w64_id (n := i + 1) (by omega)]
   refine hrec _ ⟨⟨by show 0 ≤ i + 1; omega, by show i + 1 ≤ K; omega⟩, ?_, rfl⟩ (by show (K - (i + 1)).toNat < (K - i).toNat; omega)
   show (f + C) % 1024 = (xF C F P a + C * (i + 1)) % 1024
   rw [he]; unfold atF
   have e : xF C F P a + C * (i + 1) = ((xF C F P a + C * i) % 1024 + C) + 1024 * ((xF C F P a + C * i) / 1024) := by rw [Int.mul_add]; omega
   rw [e, mod_add_mul]
 dsimp only
 rw [key]
 dsimp only
 generalize hS : 10 * xF C F P a + xS F O a = S at *
 have hS0 : 0 ≤ S ∧ S < 10 * C := by omega
 have hCK : 10 * C * K = 10240 := by rw [Int.mul_assoc, ← hK]; rfl
 have haw : awakeF (10 * C) S 1 0 10239 = K := by
  unfold awakeF
  have := cnt_per (C := 10 * C) (S := S) (O := 1) (t := 0) (k := K) (by omega)
  rw [hCK] at this
  rw [show (10239 : Int) + 1 = 0 + 10240 by rfl, this]; omega
 have hwk : wakesF (10 * C) S 1 0 10239 = K := by
  unfold wakesF
  rw [if_pos (show (1 : Int) < 10 * C by omega)]
  have e1 : (10239 - S) / (10 * C) = K - 1 := (dm_of (b := 10 * C) (by omega) (q := K - 1) (r := 10 * C - 1 - S) (by rw [Int.mul_sub]; omega) (by omega) (by omega)).1
  rw [e1]
  by_cases hz : S = 0
  ·
   subst hz
   have : onF (10 * C) 0 1 0 = true := by unfold onF sinceF; simp
   rw [if_pos this, show (0 : Int) - 0 = 0 by rfl, Int.zero_ediv]; omega
  ·
   have e2 := dm_of (b := 10 * C) (n := 0 - S) (by omega) (q := -1) (r := 10 * C - S) (by omega) (by omega) (by omega)
   have : ¬ onF (10 * C) S 1 0 = true := by unfold onF sinceF; rw [e2.2]; simp; omega
   rw [if_neg this, e2.1]; omega
 have ht : ticksE 0 10239 = 0 := by decide
 rw [AwakeIn_c hN hsl ht, Energy_c hN hsl ht hw0, haw, hwk, hdiv]
 obtain ⟨ee, _⟩ := enW_eq (on := K) (wk := K) (lo := 0) (hi := 10239) (by omega) (by omega) (by omega) (by omega) (by omega) hpp.1 hpp.2.1 hpp.2.2
 have m1 := mul_le (a := K) (b := aw + w) (A := 1024) (B := 2000) (by omega) (by omega)
 have m2 := mul_le (a := 10239 + 1 - K) (b := z) (A := 10240) (B := 1000) (by omega) (by omega)
 rw [ee, w64_id (n := K) (by omega), w64_id (n := aw + w) (by omega), w64_id (n := K * (aw + w)) (by omega), w64_id (n := 10239 + 1) (by omega), w64_id (n := 10239 + 1 - K) (by omega), w64_id (n := (10239 + 1 - K) * z) (by omega), w64_id (by omega)]
 have e2 : enF K K 0 10239 aw z w = K * (aw + w) + (10239 + 1 - K) * z := by
  unfold enF
  rw [Int.mul_add, Int.sub_zero]; omega
 rw [e2]
 simp
end
end
end Go.Sh
