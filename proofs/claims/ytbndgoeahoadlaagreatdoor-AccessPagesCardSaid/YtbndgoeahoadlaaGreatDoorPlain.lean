/-
 Phones that are on in cycles: how often, and when next. Plain numbers.
-/
import Derived.Test.YtbndgoeahoadlaaGreatDoorPlA
import Derived.Test.YtbndgoeahoadlaaGreatDoorAsS
set_option linter.all false
namespace Go.Sh
open Go.PW

theorem dm {n b : Int} (hb : 0 < b) : n = b * (n / b) + n % b ∧ 0 ≤ n % b ∧ n % b < b :=
 ⟨(Int.mul_ediv_add_emod n b).symm, Int.emod_nonneg n (by omega), Int.emod_lt_of_pos n hb⟩
theorem dm_of {n b q r : Int} (hb : 0 < b) (h : n = b * q + r) (h0 : 0 ≤ r) (h1 : r < b) : n / b = q ∧ n % b = r :=
 (Int.ediv_emod_unique hb).2 ⟨by omega, h0, h1⟩
theorem mod_add_mul {x b k : Int} : (x + b * k) % b = x % b := Int.add_mul_emod_self_left x b k

end Go.Sh

/-
 Occasions: the next one of a frame and a subframe. Plain numbers.
-/
namespace Go.Sh
open Go.PW

def gapF (C xF f : Int) : Int := (xF - f) % C
theorem gap_bd {C xF f : Int} (hC : 0 < C) : 0 ≤ gapF C xF f ∧ gapF C xF f < C := ⟨Int.emod_nonneg _ (by omega), Int.emod_lt_of_pos _ hC⟩
theorem gap_eq {C xF f : Int} (hC : 0 < C) (hx : 0 ≤ xF ∧ xF < C) (hf : 0 ≤ f) : (xF - f.tmod C + C).tmod C = gapF C xF f := by
 have h := dm (n := f) hC
 rw [Int.tmod_eq_emod_of_nonneg hf, Int.tmod_eq_emod_of_nonneg (by omega)]
 unfold gapF
 have e : xF - f % C + C = (xF - f) + C * (f / C + 1) := by rw [Int.mul_add]; omega
 rw [e, mod_add_mul]
theorem gap_zero {C xF f : Int} (hC : 0 < C) (hx : 0 ≤ xF ∧ xF < C) : gapF C xF f = 0 ↔ f % C = xF := by
 unfold gapF
 have h := dm (n := f) hC
 have h2 := dm (n := xF - f) hC
 constructor
 ·
  intro e
  exact (dm_of hC (n := f) (q := -((xF - f) / C)) (r := xF) (by rw [Int.mul_neg]; omega) hx.1 hx.2).2
 ·
  intro e
  exact (dm_of hC (n := xF - f) (q := -(f / C)) (r := 0) (by rw [Int.mul_neg]; omega) (by omega) hC).2
theorem gap_succ {C xF f : Int} (hC : 0 < C) (h : gapF C xF f ≠ 0) : gapF C xF (f + 1) = gapF C xF f - 1 := by
 have hb := gap_bd (xF := xF) (f := f) hC
 unfold gapF at *
 have h2 := dm (n := xF - f) hC
 exact (dm_of hC (q := (xF - f) / C) (by omega) (by omega) (by omega)).2
theorem gap_ring {C xF f : Int} (hd : C ∣ 1024) : gapF C xF (f % 1024) = gapF C xF f := by
 unfold gapF
 have h := dm (n := f) (b := 1024) (by decide)
 obtain ⟨k, hk⟩ := hd
 have e : xF - f % 1024 = (xF - f) + C * (k * (f / 1024)) := by rw [← Int.mul_assoc, ← hk]; omega
 rw [e, mod_add_mul]
def occN (C xF xS f s : Int) : Int := if xS < s then f + 1 + gapF C xF (f + 1) else f + gapF C xF f
theorem occN_hit {C xF xS f : Int} (hC : 0 < C) (hx : 0 ≤ xF ∧ xF < C) (h : f % C = xF) : occN C xF xS f xS = f := by
 unfold occN
 rw [if_neg (by omega), (gap_zero hC hx).2 h]; omega
theorem occN_step {C xF xS f s : Int} (hC : 0 < C) (hx : 0 ≤ xF ∧ xF < C) (h : ¬ (f % C = xF ∧ s = xS)) : occN C xF xS f (s + 1) = occN C xF xS f s := by
 unfold occN
 by_cases h1 : xS < s
 · rw [if_pos h1, if_pos (by omega)]
 ·
  by_cases h2 : s = xS
  ·
   subst h2
   rw [if_pos (show s < s + 1 by omega), if_neg (Int.lt_irrefl s)]
   have : gapF C xF f ≠ 0 := fun e => h ⟨(gap_zero hC hx).1 e, rfl⟩
   rw [gap_succ hC this]; omega
  · rw [if_neg (show ¬ xS < s + 1 by omega), if_neg h1]
theorem occN_nine {C xF xS f : Int} (hC : 0 < C) (hx : 0 ≤ xF ∧ xF < C) (hs : 0 ≤ xS ∧ xS ≤ 9) (h : ¬ (f % C = xF ∧ (9 : Int) = xS)) : occN C xF xS f 9 = f + 1 + gapF C xF (f + 1) := by
 unfold occN
 split
 · rfl
 ·
  have h9 : xS = 9 := by omega
  have : gapF C xF f ≠ 0 := fun e => h ⟨(gap_zero hC hx).1 e, h9.symm⟩
  rw [gap_succ hC this]; omega
theorem occN_wrap {C xF xS f : Int} (hC : 0 < C) (hd : C ∣ 1024) (hx : 0 ≤ xF ∧ xF < C) (hs : 0 ≤ xS ∧ xS ≤ 9) (h : ¬ (f % C = xF ∧ (9 : Int) = xS)) :
  occN C xF xS ((f + 1) % 1024) 0 - (f + 1) % 1024 = occN C xF xS f 9 - (f + 1) ∧ occN C xF xS ((f + 1) % 1024) 0 % 1024 = occN C xF xS f 9 % 1024 := by
 rw [occN_nine hC hx hs h]
 unfold occN
 rw [if_neg (by omega), gap_ring hd]
 refine ⟨by omega, ?_⟩
 have h2 := dm (n := f + 1) (b := 1024) (by decide)
 have e : f + 1 + gapF C xF (f + 1) = ((f + 1) % 1024 + gapF C xF (f + 1)) + 1024 * ((f + 1) / 1024) := by omega
 rw [e, mod_add_mul]
def occD (C xF xS f s : Int) : Int := 10 * (occN C xF xS f s - f) + xS - s
theorem occD_bd {C xF xS f s : Int} (hC : 0 < C) (hs : 0 ≤ xS ∧ xS ≤ 9) (hss : 0 ≤ s ∧ s ≤ 9) : 0 ≤ occD C xF xS f s ∧ occD C xF xS f s ≤ 10 * C + 9 := by
 unfold occD occN
 have h1 := gap_bd (xF := xF) (f := f) hC
 have h2 := gap_bd (xF := xF) (f := f + 1) hC
 split <;> omega
end Go.Sh

/-
 Phones that sleep: what the functions of both sides come to.
-/
namespace Go.Sh
open Go.PW
noncomputable section

theorem grd_val {α : Type} (g : Bool) (d b : α) : grd g d (some b) = some (if g = true then b else d) := by unfold grd; split <;> rfl
theorem br_val {α : Type} (g : Bool) (a b : α) : br g (some a) (some b) = some (if g = true then a else b) := by unfold br; split <;> rfl
def inB (n lo hi : Int) : Bool := decide (lo ≤ n) && decide (n ≤ hi)
theorem within_eq (N : Nat) (n lo hi : Int) : access_within N n lo hi = some (inB n lo hi) := rfl
theorem Within_eq (N : Nat) (n lo hi : Int) : base_Within N n lo hi = some (inB n lo hi) := rfl
theorem unless_eq (N : Nat) (b : Bool) (e : Int) : access_unless N b e = some (if b = true then 0 else e) := br_val b 0 e
def firstF : List Int → Int
 | [] => 0
 | e :: l => if e = 0 then firstF l else e
theorem first_eq {N : Nat} {l : List Int} (hl : l.length < N) (hb : l.length ≤ 1000) : access_first N l = some (firstF l) := by
 have key : rds (access_first.b1 N l fun _ => some 0) N (0 : Int) = some (firstF (l.drop (0 : Int).toNat)) := by
  refine rds_spec (fun k : Int => 0 ≤ k ∧ k ≤ l.length) (fun k => l.length - k.toNat) (fun k => some (firstF (l.drop k.toNat))) (fun rec k hk hrec => ?_) N 0 (by omega) (by simp; omega)
  unfold access_first.b1
  by_cases h : k < (l.length : Int)
  ·
   rw [br_pos (by simpa using h), chk_pos (by omega)]
   have hkn : k.toNat < l.length := by omega
   have hd : l.drop k.toNat = l.getD k.toNat 0 :: l.drop (k.toNat + 1) := by
    rw [List.drop_eq_getElem_cons hkn]
    simp [List.getD_eq_getElem?_getD, hkn]
   rw [hd]
   by_cases he : l.getD k.toNat 0 = 0
   ·
    rw [br_neg (by simpa using he), w64_id (by omega), hrec (k + 1) (by omega) (by omega)]
    simp only [firstF, he, if_true]
    rw [show (k + 1).toNat = k.toNat + 1 by omega]
   ·
    rw [br_pos (by simpa using he)]
    simp only [firstF, he, if_false]
  ·
   rw [br_neg (by simpa using h)]
   rw [List.drop_eq_nil_of_le (by omega)]; rfl
 exact key
end
end Go.Sh

/-
 Phones that sleep: the loops of both sides.
-/
namespace Go.Sh
open Go.PW
noncomputable section
section
variable {N : Nat} {C S O I : Int}
theorem tmodP {t C : Int} (hC : 0 < C) (ht : 0 ≤ t) : t.tmod C = t % C ∧ 0 ≤ t % C ∧ t % C < C := ⟨Int.tmod_eq_emod_of_nonneg ht, Int.emod_nonneg t (by omega), Int.emod_lt_of_pos t hC⟩
theorem tdivP {t C : Int} (hC : 0 < C) (ht : 0 ≤ t) : t.tdiv C = t / C ∧ 0 ≤ t / C ∧ t / C ≤ t := by
 refine ⟨Int.tdiv_eq_ediv_of_nonneg ht, Int.ediv_nonneg ht (by omega), ?_⟩
 exact Int.ediv_le_self C ht
end
end
end Go.Sh

/-
 The laws of sleep: both sides agree; ranges are summed up.
-/
namespace Go.Sh
open Go.PW
noncomputable section
section
variable {N : Nat} {C S O I : Int}
end
end
end Go.Sh

/-
 Paging: what the functions of both sides come to.
-/
namespace Go.Sh
open Go.PW
noncomputable section
theorem pow2 : ∀ n : Fin 257, 1 ≤ n.val → ((andI (n.val : Int) (w64 ((n.val : Int) - 1)) = 0) ↔ (256 : Int) % (n.val : Int) = 0) := by
 have h : ∀ n : Fin 257, 1 ≤ n.val → (((BitVec.ofInt 64 (n.val : Int) &&& BitVec.ofInt 64 ((n.val : Int) - 1)).toNat = 0) ↔ (256 : Int) % (n.val : Int) = 0) := by decide +kernel
 intro n hn
 have hb : (BitVec.ofInt 64 (n.val : Int) &&& BitVec.ofInt 64 ((n.val : Int) - 1)).toNat ≤ n.val := by
  rw [BitVec.toNat_and]
  refine Nat.le_trans Nat.and_le_left ?_
  rw [BitVec.toNat_ofInt]
  have := n.isLt
  rw [Int.emod_eq_of_lt (by omega) (by omega)]
  omega
 unfold andI
 have := n.isLt
 rw [w64_id (n := (n.val : Int) - 1) (by omega), w64_id (by omega), ← h n hn]
 omega
theorem pow2' {C : Int} (h : 1 ≤ C ∧ C ≤ 256) : (andI C (w64 (C - 1)) == 0) = decide (256 % C = 0) := by
 have := pow2 ⟨C.toNat, by omega⟩ (by show 1 ≤ C.toNat; omega)
 have e : ((C.toNat : Nat) : Int) = C := by omega
 simp only [e] at this
 rw [Bool.eq_iff_iff, beq_iff_eq, decide_eq_true_eq]
 exact this
def okPg (C F O P : Int) : Prop := (1 ≤ C ∧ C ≤ 256) ∧ 256 % C = 0 ∧ (1 ≤ F ∧ F ≤ C) ∧ C % F = 0 ∧ (O = 1 ∨ O = 2 ∨ O = 4) ∧ 0 ≤ P ∧ P ≤ C - 1
def pgE (C F O P : Int) : Int := if ¬ (1 ≤ C ∧ C ≤ 256) then 2 else if ¬ 256 % C = 0 then 3 else if ¬ (1 ≤ F ∧ F ≤ C) then 2 else if ¬ C % F = 0 then 3 else if ¬ (O = 1 ∨ O = 2 ∨ O = 4) then 15 else if ¬ (0 ≤ P ∧ P ≤ C - 1) then 2 else 0
theorem pgE_zero {C F O P : Int} : pgE C F O P = 0 ↔ okPg C F O P := by
 unfold pgE okPg
 by_cases h1 : 1 ≤ C ∧ C ≤ 256
 rotate_left
 · rw [if_pos h1]; exact ⟨fun h => (by cases h), fun h => absurd h.1 h1⟩
 rw [if_neg (fun h => h h1)]
 by_cases h2 : 256 % C = 0
 rotate_left
 · rw [if_pos h2]; exact ⟨fun h => (by cases h), fun h => absurd h.2.1 h2⟩
 rw [if_neg (fun h => h h2)]
 by_cases h3 : 1 ≤ F ∧ F ≤ C
 rotate_left
 · rw [if_pos h3]; exact ⟨fun h => (by cases h), fun h => absurd h.2.2.1 h3⟩
 rw [if_neg (fun h => h h3)]
 by_cases h4 : C % F = 0
 rotate_left
 · rw [if_pos h4]; exact ⟨fun h => (by cases h), fun h => absurd h.2.2.2.1 h4⟩
 rw [if_neg (fun h => h h4)]
 by_cases h5 : O = 1 ∨ O = 2 ∨ O = 4
 rotate_left
 · rw [if_pos h5]; exact ⟨fun h => (by cases h), fun h => absurd h.2.2.2.2.1 h5⟩
 rw [if_neg (fun h => h h5)]
 by_cases h6 : 0 ≤ P ∧ P ≤ C - 1
 · rw [if_neg (fun h => h h6)]; exact ⟨fun _ => ⟨h1, h2, h3, h4, h5, h6⟩, fun _ => rfl⟩
 · rw [if_pos h6]; exact ⟨fun h => (by cases h), fun h => absurd h.2.2.2.2.2 h6⟩
def plF (O : Int) : List Int := if O = 1 then [9] else if O = 2 then [4, 9] else if O = 4 then [0, 4, 5, 9] else []
theorem places_eq (N : Nat) (O : Int) : access_places N O = some (plF O) := by
 unfold access_places plF
 by_cases h1 : O = 1
 · rw [br_pos (by simpa using h1), if_pos h1]; rfl
 rw [br_neg (by simpa using h1), if_neg h1]
 by_cases h2 : O = 2
 · rw [br_pos (by simpa using h2), if_pos h2]; rfl
 rw [br_neg (by simpa using h2), if_neg h2]
 by_cases h4 : O = 4
 · rw [br_pos (by simpa using h4), if_pos h4]; rfl
 rw [br_neg (by simpa using h4), if_neg h4]
theorem plF_ne {O : Int} : (!(plF O).isEmpty) = decide (O = 1 ∨ O = 2 ∨ O = 4) := by
 unfold plF
 by_cases h1 : O = 1
 · subst h1; rfl
 by_cases h2 : O = 2
 · subst h2; rfl
 by_cases h4 : O = 4
 · subst h4; rfl
 simp [h1, h2, h4]
theorem inB_dec (n lo hi : Int) : inB n lo hi = decide (lo ≤ n ∧ n ≤ hi) := by unfold inB; rw [Bool.decide_and]
theorem CheckPaging_eq {N : Nat} (hN : 10 ≤ N) (C F O P : Int) : access_CheckPaging N C F O P = some (pgE C F O P) := by
 unfold access_CheckPaging
 simp only [within_eq, unless_eq, bnd_val, inB_dec, places_eq, plF_ne, decide_eq_true_eq]
 rw [first_eq (by simp; omega) (by simp)]
 simp only [bnd_val]
 unfold pgE
 by_cases h1 : 1 ≤ C ∧ C ≤ 256
 rotate_left
 ·
  rw [if_neg h1, if_pos h1]
  rw [br_pos (by simp [firstF])]; simp [firstF]
 rw [pow2' h1, if_pos h1, if_neg (c := ¬ (1 ≤ C ∧ C ≤ 256)) (fun h => h h1)]
 simp only [decide_eq_true_eq]
 by_cases h2 : 256 % C = 0
 rotate_left
 ·
  rw [if_neg h2, if_pos h2]
  rw [br_pos (by simp [firstF])]; simp [firstF]
 rw [if_pos h2, if_neg (c := ¬ 256 % C = 0) (fun h => h h2)]
 by_cases h3 : 1 ≤ F ∧ F ≤ C
 rotate_left
 ·
  rw [if_neg h3, if_pos h3]
  rw [br_pos (by simp [firstF])]; simp [firstF]
 rw [if_pos h3, if_neg (c := ¬ (1 ≤ F ∧ F ≤ C)) (fun h => h h3)]
 rw [br_neg (by simp [firstF]), chk_pos (by omega), first_eq (by simp; omega) (by simp), Int.tmod_eq_emod_of_nonneg (by omega), w64_id (by omega)]
 simp only [bnd_val, beq_iff_eq, decide_eq_true_eq]
 by_cases h4 : C % F = 0
 rotate_left
 · rw [if_neg h4, if_pos h4]; simp [firstF]
 rw [if_pos h4, if_neg (c := ¬ C % F = 0) (fun h => h h4)]
 by_cases h5 : O = 1 ∨ O = 2 ∨ O = 4
 rotate_left
 · rw [if_neg h5, if_pos h5]; simp [firstF]
 rw [if_pos h5, if_neg (c := ¬ (O = 1 ∨ O = 2 ∨ O = 4)) (fun h => h h5)]
 by_cases h6 : 0 ≤ P ∧ P ≤ C - 1
 · rw [if_pos h6, if_neg (fun h => h h6)]; simp [firstF]
 · rw [if_neg h6, if_pos h6]; simp [firstF]
theorem CheckPagingR_eq (N : Nat) (C F O P : Int) : ref07_CheckPaging N C F O P = some (pgE C F O P) := by
 unfold ref07_CheckPaging
 simp only [Within_eq, bnd_val, inB_dec]
 unfold pgE
 by_cases h1 : 1 ≤ C ∧ C ≤ 256
 rotate_left
 · rw [if_pos h1, br_pos (by rw [decide_eq_false h1]; rfl)]
 rw [br_neg (by simp [h1]), if_neg (c := ¬ (1 ≤ C ∧ C ≤ 256)) (fun h => h h1), chk_pos (by omega), Int.tmod_eq_emod_of_nonneg (by omega)]
 by_cases h2 : 256 % C = 0
 rotate_left
 · rw [if_pos h2, br_pos (by simpa using h2)]
 rw [br_neg (by simp [h2]), if_neg (c := ¬ 256 % C = 0) (fun h => h h2)]
 by_cases h3 : 1 ≤ F ∧ F ≤ C
 rotate_left
 · rw [if_pos h3, br_pos (by rw [decide_eq_false h3]; rfl)]
 rw [br_neg (by simp [h3]), if_neg (c := ¬ (1 ≤ F ∧ F ≤ C)) (fun h => h h3), chk_pos (by omega), Int.tmod_eq_emod_of_nonneg (by omega)]
 by_cases h4 : C % F = 0
 rotate_left
 · rw [if_pos h4, br_pos (by simpa using h4)]
 rw [br_neg (by simp [h4]), if_neg (c := ¬ C % F = 0) (fun h => h h4)]
 by_cases h5 : O = 1 ∨ O = 2 ∨ O = 4
 rotate_left
 · rw [if_pos h5, br_pos (by simp only [Bool.and_eq_true, bne_iff_ne]; omega)]
 rw [br_neg (by rcases h5 with h | h | h <;> simp [h]), if_neg (c := ¬ (O = 1 ∨ O = 2 ∨ O = 4)) (fun h => h h5), w64_id (by omega)]
 by_cases h6 : 0 ≤ P ∧ P ≤ C - 1
 · rw [br_neg (by simp [h6]), if_neg (fun h => h h6)]
 · rw [br_pos (by rw [decide_eq_false h6]; rfl), if_pos h6]
def numE (n : Int) : Int := if 0 ≤ n ∧ n ≤ 1000000 then 0 else 2
theorem NumberErr_eq (N : Nat) (n : Int) : ref07_NumberErr N n = some (numE n) := by
 unfold ref07_NumberErr
 simp only [Within_eq, bnd_val, br_val, numE, inB_dec]
 by_cases h : 0 ≤ n ∧ n ≤ 1000000 <;> simp [h]
theorem firstF_two (a b : Int) (l : List Int) : firstF (firstF [a, b] :: l) = firstF (a :: b :: l) := by
 by_cases ha : a = 0
 ·
  by_cases hb : b = 0
  · simp [firstF, ha, hb]
  · simp [firstF, ha, hb]
 · simp [firstF, ha]
theorem pagingErr_eq {N : Nat} (hN : 10 ≤ N) (C F O P : Int) (l : List Int) (hl : l.length < 5) : access_pagingErr N C F O P l = some (firstF (pgE C F O P :: l.map numE)) := by
 unfold access_pagingErr
 rw [CheckPaging_eq hN]
 simp only [bnd_val]
 have key : rds (access_pagingErr.b1 N l fun e => some e) N (pgE C F O P, (0 : Int)) = some (firstF (pgE C F O P :: (l.drop (0 : Int).toNat).map numE)) := by
  refine rds_spec (fun x : Int × Int => 0 ≤ x.2 ∧ x.2 ≤ l.length) (fun x => l.length - x.2.toNat) (fun x => some (firstF (x.1 :: (l.drop x.2.toNat).map numE))) (fun rec x hk hrec => ?_) N (pgE C F O P, 0) (by simp) (by simp; omega)
  obtain ⟨e, k⟩ := x
  simp only at hk
  unfold access_pagingErr.b1
  dsimp only
  by_cases h : k < (l.length : Int)
  ·
   have hkn : k.toNat < l.length := by omega
   have hd : l.drop k.toNat = l.getD k.toNat 0 :: l.drop (k.toNat + 1) := by
    rw [List.drop_eq_getElem_cons hkn]
    simp [List.getD_eq_getElem?_getD, hkn]
   rw [br_pos (by simpa using h), chk_pos (by omega)]
   simp only [within_eq, unless_eq, bnd_val, inB_dec, decide_eq_true_eq]
   rw [first_eq (by simp; omega) (by simp)]
   simp only [bnd_val]
   rw [w64_id (by omega), hrec (_, k + 1) ⟨by show 0 ≤ k + 1; omega, by show k + 1 ≤ _; omega⟩ (by show l.length - (k + 1).toNat < l.length - k.toNat; omega)]
   show some (firstF (firstF [e, numE (l.getD k.toNat 0)] :: _)) = _
   rw [firstF_two, hd, List.map_cons, show (k + 1).toNat = k.toNat + 1 by omega]
  ·
   rw [br_neg (by simpa using h)]
   rw [List.drop_eq_nil_of_le (by omega)]
   by_cases he : e = 0 <;> simp [firstF, he]
 exact key
def occE (f s : Int) : Int := if (0 ≤ f ∧ f ≤ 1023) ∧ 0 ≤ s ∧ s ≤ 9 then 0 else 2
theorem occErr_eq (N : Nat) (f s : Int) : access_occasionErr N f s = some (occE f s) := by
 unfold access_occasionErr occE
 simp only [within_eq, unless_eq, bnd_val, grd_val, inB_dec]
 by_cases h1 : 0 ≤ f ∧ f ≤ 1023 <;> by_cases h2 : 0 ≤ s ∧ s ≤ 9 <;> simp [h1, h2]
theorem occErrR_eq (N : Nat) (f s : Int) : ref07_OccasionErr N f s = some (occE f s) := by
 unfold ref07_OccasionErr occE
 simp only [Within_eq, bnd_val, grd_val, br_val, inB_dec]
 by_cases h1 : 0 ≤ f ∧ f ≤ 1023 <;> by_cases h2 : 0 ≤ s ∧ s ≤ 9 <;> simp [h1, h2]
def xF (C F P ph : Int) : Int := (C / F * (ph % F) + C - P) % C
def xS (F O ph : Int) : Int := (plF O).getD ((ph / F) % O).toNat 0
section
variable {N : Nat} {C F O P : Int}
theorem okPg.dvd (h : okPg C F O P) : C ∣ 1024 := by
 obtain ⟨k, hk⟩ := Int.dvd_of_emod_eq_zero h.2.1
 exact ⟨k * 4, by rw [← Int.mul_assoc, ← hk]; rfl⟩
theorem okPg.q (h : okPg C F O P) (ph : Int) : 0 ≤ C / F * (ph % F) ∧ C / F * (ph % F) < C ∧ 0 ≤ C / F ∧ C / F ≤ C := by
 obtain ⟨h1, _, h3, h4, _⟩ := h
 have hF : 0 < F := by omega
 have hm := dm (n := ph) hF
 have hd := dm (n := C) hF
 rw [h4] at hd
 have h0 : 0 ≤ C / F := Int.ediv_nonneg (by omega) (by omega)
 have hp : 0 < C / F := by
  rcases Int.lt_or_eq_of_le h0 with h | h
  · exact h
  · rw [← h] at hd; omega
 have hc : C / F * F = C := by rw [Int.mul_comm]; omega
 refine ⟨Int.mul_nonneg h0 hm.2.1, ?_, h0, Int.ediv_le_self _ (by omega)⟩
 have := Int.mul_lt_mul_of_pos_left hm.2.2 hp
 omega
theorem okPg.xF (h : okPg C F O P) (ph : Int) : 0 ≤ xF C F P ph ∧ xF C F P ph < C := ⟨Int.emod_nonneg _ (by have := h.1; omega), Int.emod_lt_of_pos _ (by have := h.1; omega)⟩
theorem okPg.len (h : okPg C F O P) : ((plF O).length : Int) = O := by
 rcases h.2.2.2.2.1 with h | h | h <;> subst h <;> rfl
theorem plF_bd (O : Int) (n : Nat) : 0 ≤ (plF O).getD n 0 ∧ (plF O).getD n 0 ≤ 9 := by
 unfold plF
 split
 ·
  match n with
  | 0 => decide
  | n + 1 => simp
 split
 ·
  match n with
  | 0 => decide
  | 1 => decide
  | n + 2 => simp
 split
 ·
  match n with
  | 0 => decide
  | 1 => decide
  | 2 => decide
  | 3 => decide
  | n + 4 => simp
 · simp
theorem xS_bd (F O ph : Int) : 0 ≤ xS F O ph ∧ xS F O ph ≤ 9 := plF_bd O _
theorem quo (h : okPg C F O P) {ph : Int} (hp : 0 ≤ ph ∧ ph ≤ 1000000) : w64 (ph.tdiv F) = ph / F ∧ 0 ≤ ph / F := by
 obtain ⟨h1, h2⟩ := (tdivP (C := F) (by have := h.2.2.1; omega) hp.1)
 rw [h1, w64_id (by omega)]; exact ⟨rfl, h2.1⟩
theorem occasion_c (h : okPg C F O P) {ph : Int} (hp : 0 ≤ ph ∧ ph ≤ 1000000) : access_occasion N C F O P ph = some (xF C F P ph, xS F O ph) := by
 have hq := h.q ph
 have hO : 0 < O := by rcases h.2.2.2.2.1 with h | h | h <;> omega
 obtain ⟨h1, _, h3, _, _, h6⟩ := id h
 obtain ⟨e1, e2⟩ := quo h hp
 have hm := tmodP (C := O) hO e2
 unfold access_occasion
 rw [places_eq]
 simp only [bnd_val]
 rw [chk_pos (by omega), chk_pos (by omega), chk_pos (by omega), chk_pos (by omega), h.len, e1, chk_pos (by omega), chk_pos (by omega)]
 rw [Int.tdiv_eq_ediv_of_nonneg (a := C) (by omega), Int.tmod_eq_emod_of_nonneg (a := ph) hp.1, w64_id (n := C / F) (by omega), w64_id (n := C / F * (ph % F)) (by omega), w64_id (n := C / F * (ph % F) + C) (by omega), w64_id (by omega), Int.tmod_eq_emod_of_nonneg (by omega), hm.1]
 rfl
theorem subframe_c (h : okPg C F O P) {ph : Int} (hp : 0 ≤ ph ∧ ph ≤ 1000000) : ref07_subframe N C F O P ph = some (xS F O ph) := by
 have hO : 0 < O := by rcases h.2.2.2.2.1 with h | h | h <;> omega
 obtain ⟨h1, _, h3, _, h5, h6⟩ := id h
 obtain ⟨e1, e2⟩ := quo h hp
 have hm := tmodP (C := O) hO e2
 have hl := h.len
 unfold ref07_subframe jn
 rw [e1, hm.1]
 unfold xS
 rcases h5 with rfl | rfl | rfl
 ·
  dsimp only
  rw [br_neg (by decide)]
  rw [br_neg (by decide), chk_pos (by omega), chk_pos (by omega), chk_pos (by first | (simp; done) | (simp; omega))]; rfl
 ·
  dsimp only
  rw [br_pos (by decide)]
  rw [br_neg (by decide), chk_pos (by omega), chk_pos (by omega), chk_pos (by first | (simp; done) | (simp; omega))]; rfl
 ·
  dsimp only
  rw [br_neg (by decide)]
  rw [br_pos (by decide), chk_pos (by omega), chk_pos (by omega), chk_pos (by first | (simp; done) | (simp; omega))]; rfl
theorem frame_iff (h : okPg C F O P) (ph f : Int) : (f + P) % C = C / F * (ph % F) ↔ f % C = xF C F P ph := by
 have hq := h.q ph
 obtain ⟨h1, _, _, _, _, h6⟩ := id h
 have hC : 0 < C := by omega
 unfold xF
 generalize C / F * (ph % F) = q at hq ⊢
 have a := dm (n := f + P) hC
 have b := dm (n := f) hC
 have c := dm (n := q + C - P) hC
 constructor
 ·
  intro e
  have : f = (q + C - P) + C * ((f + P) / C - 1) := by rw [Int.mul_sub]; omega
  exact (congrArg (· % C) this).trans mod_add_mul
 ·
  intro e
  exact (dm_of hC (q := f / C - (q + C - P) / C + 1) (by rw [Int.mul_add, Int.mul_sub]; omega) hq.1 hq.2.1).2
theorem beqD (a b : Int) : (a == b) = decide (a = b) := rfl
theorem isOcc_b (h : okPg C F O P) (ph f : Int) (s : Int) : decide (f % C = xF C F P ph) = ((f + P) % C == C / F * (ph % F)) := by
 rw [Bool.eq_iff_iff, beq_iff_eq, decide_eq_true_eq]; exact (frame_iff h ph f).symm
def isF (C F O P ph f s : Int) : Bool := decide (f % C = xF C F P ph) && decide (s = xS F O ph)
theorem IsOccasionR_c (h : okPg C F O P) {ph f s : Int} (hp : 0 ≤ ph ∧ ph ≤ 1000000) (hf : 0 ≤ f ∧ f ≤ 1023) : ref07_IsOccasion N C F O P ph f s = some (isF C F O P ph f s) := by
 have hq := h.q ph
 obtain ⟨h1, _, h3, _, _, h6⟩ := id h
 unfold ref07_IsOccasion
 rw [chk_pos (by omega), chk_pos (by omega), chk_pos (by omega), subframe_c h hp, w64_id (n := f + P) (by omega), Int.tmod_eq_emod_of_nonneg (a := f + P) (by omega), Int.tdiv_eq_ediv_of_nonneg (a := C) (by omega), Int.tmod_eq_emod_of_nonneg (a := ph) hp.1, w64_id (n := C / F) (by omega), w64_id (by omega)]
 simp only [grd_val, bnd_val]
 unfold isF
 rw [isOcc_b h ph f s]
 cases (f + P) % C == C / F * (ph % F)
 · rfl
 ·
  simp only [if_true, Bool.true_and]
  rw [beqD]
theorem isF_iff {ph f s : Int} : isF C F O P ph f s = true ↔ f % C = xF C F P ph ∧ s = xS F O ph := by unfold isF; simp
def nxF (C F O P ph f s : Int) : Int := occN C (xF C F P ph) (xS F O ph) f s % 1024
theorem NextOccasionR_c (h : okPg C F O P) (hN : 30000 ≤ N) {ph f s : Int} (hp : 0 ≤ ph ∧ ph ≤ 1000000) (hf : 0 ≤ f ∧ f ≤ 1023) (hs : 0 ≤ s ∧ s ≤ 9) : ref07_NextOccasion N C F O P ph f s = some (nxF C F O P ph f s, xS F O ph) := by
 have hx := h.xF ph
 have hxs := xS_bd F O ph
 have hd := h.dvd
 have hC : 0 < C := by have := h.1; omega
 have hC2 := h.1.2
 unfold ref07_NextOccasion jn
 show rds (ref07_NextOccasion.b1 N C F O P ph fun x => some (x.1, x.2)) N (f, s) = _
 have hb := fun f s => occD_bd (xF := xF C F P ph) (f := f) (s := s) hC hxs
 refine rds_spec (fun x : Int × Int => (0 ≤ x.1 ∧ x.1 ≤ 1023) ∧ 0 ≤ x.2 ∧ x.2 ≤ 9) (fun x => (occD C (xF C F P ph) (xS F O ph) x.1 x.2).toNat) (fun x => some (nxF C F O P ph x.1 x.2, xS F O ph)) (fun rec x hI hrec => ?_) N (f, s) ⟨hf, hs⟩ (by have := hb f s hs; show (occD C (xF C F P ph) (xS F O ph) f s).toNat < N; omega)
 obtain ⟨f, s⟩ := x
 obtain ⟨hf, hs⟩ := hI
 simp only at hf hs
 unfold ref07_NextOccasion.b1
 dsimp only
 rw [IsOccasionR_c h hp hf]
 simp only [bnd_val]
 have hbb := hb f s hs
 by_cases hi : isF C F O P ph f s = true
 ·
  rw [br_neg (by rw [hi]; rfl)]
  obtain ⟨h1, h2⟩ := isF_iff.1 hi
  subst h2
  unfold nxF
  rw [occN_hit hC hx h1, Int.emod_eq_of_lt (by omega) (by omega)]
 ·
  rw [br_pos (by rw [Bool.eq_false_iff.2 hi]; rfl)]
  have hi2 := fun e => hi (isF_iff.2 e)
  by_cases h9 : s = 9
  ·
   subst h9
   obtain ⟨w1, w2⟩ := occN_wrap hC hd hx hxs hi2
   rw [br_pos (by rw [w64_id (by omega)]; rfl), w64_id (n := f + 1) (by omega), Int.tmod_eq_emod_of_nonneg (by omega)]
   have hm := dm (n := f + 1) (b := 1024) (by decide)
   have hbd := hb ((f + 1) % 1024) 0 (by omega)
   rw [hrec _ ⟨⟨hm.2.1, by show (f + 1) % 1024 ≤ 1023; omega⟩, by show (0 : Int) ≤ 0; omega, by show (0 : Int) ≤ 9; omega⟩ (by
    show (occD C (xF C F P ph) (xS F O ph) ((f + 1) % 1024) 0).toNat < (occD C (xF C F P ph) (xS F O ph) f 9).toNat
    have : occD C (xF C F P ph) (xS F O ph) ((f + 1) % 1024) 0 = occD C (xF C F P ph) (xS F O ph) f 9 - 1 := by unfold occD; omega
    omega)]
   show some (nxF C F O P ph ((f + 1) % 1024) 0, _) = some (nxF C F O P ph f 9, _)
   unfold nxF
   rw [w2]
  ·
   have hst := occN_step hC hx hi2
   rw [br_neg (by rw [w64_id (by omega)]; simp; omega), w64_id (n := s + 1) (by omega)]
   have hbd := hb f (s + 1) (by omega)
   rw [hrec _ ⟨hf, by show 0 ≤ s + 1; omega, by show s + 1 ≤ 9; omega⟩ (by
    show (occD C (xF C F P ph) (xS F O ph) f (s + 1)).toNat < (occD C (xF C F P ph) (xS F O ph) f s).toNat
    have : occD C (xF C F P ph) (xS F O ph) f (s + 1) = occD C (xF C F P ph) (xS F O ph) f s - 1 := by unfold occD; omega
    omega)]
   show some (nxF C F O P ph f (s + 1), _) = some (nxF C F O P ph f s, _)
   unfold nxF
   rw [hst]
theorem OccasionOfR_c (h : okPg C F O P) (hN : 30000 ≤ N) {ph : Int} (hp : 0 ≤ ph ∧ ph ≤ 1000000) : ref07_OccasionOf N C F O P ph = some (xF C F P ph, xS F O ph) := by
 have hx := h.xF ph
 have hxs := xS_bd F O ph
 have hC2 := h.1.2
 unfold ref07_OccasionOf
 rw [NextOccasionR_c h hN hp (by omega) (by omega)]
 simp only [bnd_val]
 unfold nxF occN gapF
 rw [if_neg (by omega), Int.sub_zero, Int.zero_add, Int.emod_eq_of_lt hx.1 hx.2, Int.emod_eq_of_lt hx.1 (by omega)]
theorem OccasionOf_bad {ph d : Int} (hN : 10 ≤ N) (h : firstF [pgE C F O P, numE ph] = d) (hd : d ≠ 0) : access_OccasionOf N C F O P ph = some (0, 0, d) := by
 unfold access_OccasionOf
 rw [pagingErr_eq hN _ _ _ _ _ (by simp), List.map_cons, List.map_nil, h]
 simp only [bnd_val]
 rw [br_pos (by simpa using hd)]
theorem OccasionOf_c {ph : Int} (hN : 10 ≤ N) (h : okPg C F O P) (hp : 0 ≤ ph ∧ ph ≤ 1000000) : access_OccasionOf N C F O P ph = some (xF C F P ph, xS F O ph, 0) := by
 unfold access_OccasionOf
 rw [pagingErr_eq hN _ _ _ _ _ (by simp), List.map_cons, List.map_nil, pgE_zero.2 h, show numE ph = 0 from if_pos hp]
 simp only [bnd_val, firstF, if_true]
 rw [br_neg (by simp), occasion_c h hp]
 rfl
theorem IsOccasion_bad {ph f s d : Int} (hN : 10 ≤ N) (h : firstF [pgE C F O P, numE ph, occE f s] = d) (hd : d ≠ 0) : access_IsOccasion N C F O P ph f s = some (false, d) := by
 unfold access_IsOccasion
 rw [pagingErr_eq hN _ _ _ _ _ (by simp), List.map_cons, List.map_nil, occErr_eq]
 simp only [bnd_val]
 rw [first_eq (by simp; omega) (by simp), firstF_two, h]
 simp only [bnd_val]
 rw [br_pos (by simpa using hd)]
theorem IsOccasion_c {ph f s : Int} (hN : 10 ≤ N) (h : okPg C F O P) (hp : 0 ≤ ph ∧ ph ≤ 1000000) (hf : 0 ≤ f ∧ f ≤ 1023) (hs : 0 ≤ s ∧ s ≤ 9) : access_IsOccasion N C F O P ph f s = some (isF C F O P ph f s, 0) := by
 unfold access_IsOccasion
 rw [pagingErr_eq hN _ _ _ _ _ (by simp), List.map_cons, List.map_nil, occErr_eq]
 simp only [bnd_val]
 rw [first_eq (by simp; omega) (by simp), firstF_two, pgE_zero.2 h, show numE ph = 0 from if_pos hp, show occE f s = 0 from if_pos ⟨hf, hs⟩]
 simp only [bnd_val, firstF, if_true]
 rw [br_neg (by simp), chk_pos (by have := h.1; omega), occasion_c h hp, Int.tmod_eq_emod_of_nonneg hf.1]
 simp only [bnd_val, isF, beqD]
theorem NextOccasion_bad {ph f s d : Int} (hN : 10 ≤ N) (h : firstF [pgE C F O P, numE ph, occE f s] = d) (hd : d ≠ 0) : access_NextOccasion N C F O P ph f s = some (0, 0, d) := by
 unfold access_NextOccasion
 rw [pagingErr_eq hN _ _ _ _ _ (by simp), List.map_cons, List.map_nil, occErr_eq]
 simp only [bnd_val]
 rw [first_eq (by simp; omega) (by simp), firstF_two, h]
 simp only [bnd_val]
 rw [br_pos (by simpa using hd)]
theorem NextOccasion_c {ph f s : Int} (hN : 10 ≤ N) (h : okPg C F O P) (hp : 0 ≤ ph ∧ ph ≤ 1000000) (hf : 0 ≤ f ∧ f ≤ 1023) (hs : 0 ≤ s ∧ s ≤ 9) : access_NextOccasion N C F O P ph f s = some (nxF C F O P ph f s, xS F O ph, 0) := by
 have hx := h.xF ph
 have hC : 0 < C := by have := h.1; omega
 have hC2 := h.1.2
 have key : ∀ g : Int, 0 ≤ g ∧ g ≤ 1024 → (w64 (g + (w64 (w64 (xF C F P ph - g.tmod C) + C)).tmod C)).tmod 1024 = (g + gapF C (xF C F P ph) g) % 1024 := fun g hg => by
  have hb := gap_bd (xF := xF C F P ph) (f := g) hC
  have hm := tmodP (t := g) hC hg.1
  rw [w64_id (n := xF C F P ph - g.tmod C) (by omega), w64_id (n := xF C F P ph - g.tmod C + C) (by omega), gap_eq hC hx hg.1, w64_id (by omega), Int.tmod_eq_emod_of_nonneg (by omega)]
 unfold access_NextOccasion
 rw [pagingErr_eq hN _ _ _ _ _ (by simp), List.map_cons, List.map_nil, occErr_eq]
 simp only [bnd_val]
 rw [first_eq (by simp; omega) (by simp), firstF_two, pgE_zero.2 h, show numE ph = 0 from if_pos hp, show occE f s = 0 from if_pos ⟨hf, hs⟩]
 simp only [bnd_val, firstF, if_true]
 rw [br_neg (by simp), occasion_c h hp]
 simp only [bnd_val]
 rw [w64_id (n := f + 1) (by omega)]
 unfold nxF occN
 by_cases c : xS F O ph < s
 · rw [br_pos (by simpa using c), chk_pos (by omega), chk_pos (by omega), key (f + 1) (by omega), if_pos c]
 · rw [br_neg (by simpa using c), chk_pos (by omega), chk_pos (by omega), key f (by omega), if_neg c]
theorem Together_bad {a b d : Int} (hN : 10 ≤ N) (h : firstF [pgE C F O P, numE a, numE b] = d) (hd : d ≠ 0) : access_Together N C F O P a b = some (false, d) := by
 unfold access_Together
 rw [pagingErr_eq hN _ _ _ _ _ (by simp), List.map_cons, List.map_cons, List.map_nil, h]
 simp only [bnd_val]
 rw [br_pos (by simpa using hd)]
theorem Together_c {a b : Int} (hN : 10 ≤ N) (h : okPg C F O P) (ha : 0 ≤ a ∧ a ≤ 1000000) (hb : 0 ≤ b ∧ b ≤ 1000000) : access_Together N C F O P a b = some ((xF C F P a == xF C F P b) && (xS F O a == xS F O b), 0) := by
 unfold access_Together
 rw [pagingErr_eq hN _ _ _ _ _ (by simp), List.map_cons, List.map_cons, List.map_nil, pgE_zero.2 h, show numE a = 0 from if_pos ha, show numE b = 0 from if_pos hb]
 simp only [bnd_val, firstF, if_true]
 rw [br_neg (by simp), occasion_c h ha, occasion_c h hb]
 rfl
end
end
end Go.Sh

/-
 The laws of paging: both sides agree; a paged phone sleeps as its occasions say.
-/
namespace Go.Sh
open Go.PW
noncomputable section
section
variable {N : Nat} {C F O P : Int}
theorem numE_zero {n : Int} : numE n = 0 ↔ 0 ≤ n ∧ n ≤ 1000000 := by unfold numE; split <;> simp_all
theorem occE_zero {f s : Int} : occE f s = 0 ↔ (0 ≤ f ∧ f ≤ 1023) ∧ 0 ≤ s ∧ s ≤ 9 := by unfold occE; split <;> simp_all
theorem firstF_head {a : Int} {l : List Int} (h : a ≠ 0) : firstF (a :: l) = a := by simp [firstF, h]
theorem firstF_skip {l : List Int} : firstF (0 :: l) = firstF l := by simp [firstF]
theorem firstF_keep {a b d : Int} {l : List Int} (h : firstF [a, b] = d) (hd : d ≠ 0) : firstF (a :: b :: l) = d := by rw [← firstF_two, h, firstF_head hd]
theorem law_AccessPages (hN : 30000 ≤ N) (a b f s : Int) : law07_AccessPages N C F O P a b f s = some true := by
 have hN10 : 10 ≤ N := by omega
 unfold law07_AccessPages
 simp only [law07_awake, bnd_val, Bool.not_true, br_false, CheckPaging_eq hN10, CheckPagingR_eq, NumberErr_eq, occErrR_eq]
 have hd : br (pgE C F O P == 0) (some (numE a)) (some (pgE C F O P)) = some (firstF [pgE C F O P, numE a]) := by
  rw [br_val]
  by_cases h : pgE C F O P = 0
  ·
   rw [if_pos (by simpa using h), h, firstF_skip]
   by_cases h2 : numE a = 0
   · rw [h2]; rfl
   · rw [firstF_head h2]
  · rw [if_neg (by simpa using h), firstF_head h]
 unfold jn
 by_cases h0 : firstF [pgE C F O P, numE a] = 0
 rotate_left
 ·
  -- an error of the paging or of the first phone
  rw [OccasionOf_bad hN10 rfl h0, IsOccasion_bad hN10 (firstF_keep rfl h0) h0, NextOccasion_bad hN10 (firstF_keep rfl h0) h0, Together_bad hN10 (firstF_keep rfl h0) h0]
  simp only [bnd_val]
  rw [br_neg (by simp)]
  by_cases h : pgE C F O P = 0
  ·
   rw [br_pos (by simpa using h)]
   rw [h, firstF_skip] at h0 ⊢
   have h2 : numE a ≠ 0 := fun e => h0 (by rw [e]; rfl)
   rw [firstF_head h2]
   rw [br_pos (by simpa using h2)]
   simp
  ·
   rw [br_neg (by simpa using h), firstF_head h]
   rw [br_pos (by simpa using h)]
   simp
 have hp0 : pgE C F O P = 0 := by
  by_cases h : pgE C F O P = 0
  · exact h
  · rw [firstF_head h] at h0; exact h0
 have ha0 : numE a = 0 := by
  rw [hp0, firstF_skip] at h0
  by_cases h : numE a = 0
  · exact h
  · rw [firstF_head h] at h0; exact h0
 have h := pgE_zero.1 hp0
 have ha := numE_zero.1 ha0
 have hi : access_IsOccasion N C F O P a f s = some (if occE f s = 0 then isF C F O P a f s else false, occE f s) := by
  by_cases ho : occE f s = 0
  ·
   have hb := occE_zero.1 ho
   rw [IsOccasion_c hN10 h ha hb.1 hb.2, if_pos ho, ho]
  · rw [IsOccasion_bad hN10 (by rw [hp0, ha0, firstF_skip, firstF_skip, firstF_head ho]) ho, if_neg ho]
 have hn : access_NextOccasion N C F O P a f s = some (if occE f s = 0 then nxF C F O P a f s else 0, if occE f s = 0 then xS F O a else 0, occE f s) := by
  by_cases ho : occE f s = 0
  ·
   have hb := occE_zero.1 ho
   rw [NextOccasion_c hN10 h ha hb.1 hb.2, if_pos ho, if_pos ho, ho]
  · rw [NextOccasion_bad hN10 (by rw [hp0, ha0, firstF_skip, firstF_skip, firstF_head ho]) ho, if_neg ho, if_neg ho]
 have ht : access_Together N C F O P a b = some (if numE b = 0 then (xF C F P a == xF C F P b) && (xS F O a == xS F O b) else false, numE b) := by
  by_cases ho : numE b = 0
  · rw [Together_c hN10 h ha (numE_zero.1 ho), if_pos ho, ho]
  · rw [Together_bad hN10 (by rw [hp0, ha0, firstF_skip, firstF_skip, firstF_head ho]) ho, if_neg ho]
 have hK : br (occE f s != 0) (some (occE f s == occE f s && occE f s == occE f s && !(if occE f s = 0 then isF C F O P a f s else false) && ((if occE f s = 0 then nxF C F O P a f s else 0) == 0 && (if occE f s = 0 then xS F O a else 0) == 0)))
   (bnd (grd (occE f s == 0) false (ref07_IsOccasion N C F O P a f s)) fun x14 => bnd (grd (occE f s == 0 && (if occE f s = 0 then isF C F O P a f s else false) == x14 && occE f s == 0) default (ref07_NextOccasion N C F O P a f s)) fun y =>
    some (occE f s == 0 && (if occE f s = 0 then isF C F O P a f s else false) == x14 && occE f s == 0 && ((if occE f s = 0 then nxF C F O P a f s else 0) == y.1 && (if occE f s = 0 then xS F O a else 0) == y.2))) = some true := by
  by_cases ho : occE f s = 0
  ·
   have hb := occE_zero.1 ho
   rw [br_neg (by simp [ho]), IsOccasionR_c h ha hb.1, NextOccasionR_c h hN ha hb.1 hb.2]
   simp [ho]
  ·
   rw [br_pos (by simpa using ho)]
   simp [ho]
 rw [OccasionOf_c hN10 h ha, OccasionOfR_c h hN ha, hi, hn, ht, hp0, ha0]
 simp only [bnd_val, grd_val]
 rw [br_neg (by rfl), br_pos (by rfl), br_neg (by rfl), br_neg (by simp)]
 by_cases ho : numE b = 0
 ·
  rw [br_neg (by simp [ho]), OccasionOfR_c h hN (numE_zero.1 ho), ho]
  simp only [bnd_val, grd_val]
  rw [br_neg (by simp)]
  exact hK
 ·
  rw [br_pos (by simpa using ho), br_neg (by simp [ho])]
  exact hK
end
end
end Go.Sh
