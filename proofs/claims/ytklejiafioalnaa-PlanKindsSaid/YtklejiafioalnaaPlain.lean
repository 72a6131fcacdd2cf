/-
 Plain words: loops that count up. For every program.
-/
import Derived.Test.YtklejiafioalnaaPlA
import Derived.Test.YtklejiafioalnaaNsS
import Derived.Laws.Strings
set_option linter.all false
namespace Go.PW
theorem w64_succ {k : Nat} (h : k < 4611686018427387904) : w64 ((k : Int) + 1) = ((k + 1 : Nat) : Int) := by rw [w64_id (by omega)]; rfl

theorem rds_up1 {R : Type} (len : Nat) (b : (Int → Option R) → Int → Option R) (F : Nat → Option R)
  (hstep : ∀ k rec, k < len → rec ((k + 1 : Nat) : Int) = F (k + 1) → b rec (k : Int) = F k) (hend : ∀ rec, b rec (len : Int) = F len)
  {N : Nat} (hN : len < N) : rds b N 0 = F 0 := by
 have h := rds_spec (b := b) (fun x => ∃ k : Nat, k ≤ len ∧ x = k) (fun x => len - x.toNat) (fun x => F x.toNat) (fun rec x hI hrec => ?_) N 0 ⟨0, Nat.zero_le _, rfl⟩ (by simp; omega)
 · simpa using h
 ·
  obtain ⟨k, hk, hx⟩ := hI
  subst hx
  by_cases hkl : k < len
  ·
   rw [hstep k rec hkl ?_]
   · simp
   ·
    have := hrec ((k + 1 : Nat) : Int) ⟨k + 1, hkl, rfl⟩ (by simp only [Int.toNat_natCast]; omega)
    simpa using this
  ·
   have : k = len := by omega
   subst this
   rw [hend rec]; simp
end Go.PW

/-
 Plain words: loops that build a list, that fold, that look for a wrong element. For every program.
-/
namespace Go.PW

theorem any_drop {α : Type} (bad : α → Bool) (l : List α) (d : α) (k : Nat) (h : k < l.length) : (l.drop k).any bad = (bad (l.getD k d) || (l.drop (k + 1)).any bad) := by
 rw [List.drop_eq_getElem_cons h, List.any_cons]; simp [List.getD_eq_getElem?_getD, h]
theorem rds_scan {α R : Type} (l : List α) (d : α) (bad : α → Bool) (e K : Option R) (b : (Int → Option R) → Int → Option R)
  (hstep : ∀ k rec, k < l.length → b rec (k : Int) = if bad (l.getD k d) = true then e else rec ((k + 1 : Nat) : Int)) (hend : ∀ rec, b rec (l.length : Int) = K)
  {N : Nat} (hN : l.length < N) : rds b N 0 = if l.any bad = true then e else K := by
 refine (rds_up1 l.length _ (fun k => if (l.drop k).any bad = true then e else K) (fun k rec hk hr => ?_) (fun rec => ?_) hN).trans (by simp)
 ·
  rw [hstep k rec hk, hr, any_drop bad l d k hk]
  cases bad (l.getD k d) <;> simp
 · rw [hend]; simp
end Go.PW

/-
 What the shallow functions of the planning chapter come to: rasters and cells.
-/
namespace Go.Sh
open Go.PW

def inB (n lo hi : Int) : Bool := (decide (lo ≤ n)) && (decide (n ≤ hi))
theorem inB_true {n lo hi : Int} : inB n lo hi = true ↔ lo ≤ n ∧ n ≤ hi := by simp [inB]
theorem within_eq (N : Nat) (n lo hi : Int) : plan_within N n lo hi = some (inB n lo hi) := rfl
theorem Within_eq (N : Nat) (n lo hi : Int) : base_Within N n lo hi = some (inB n lo hi) := rfl
theorem unless_eq (N : Nat) (b : Bool) (e : Int) : plan_unless N b e = some (if b = true then 0 else e) := by cases b <;> rfl
def firstE : List Int → Int
 | [] => 0
 | x :: l => if x ≠ 0 then x else firstE l
theorem getD_of {α : Type} {l : List α} {k : Nat} (h : k < l.length) (d : α) : l.getD k d = l[k] := by simp [List.getD_eq_getElem?_getD, h]
theorem first_eq {N : Nat} (hM : N ≤ 20000) (l : List Int) (h : l.length < N) : plan_first N l = some (firstE l) := by
 unfold plan_first
 simp only [jn]
 refine (rds_up1 l.length _ (fun k => some (firstE (l.drop k))) (fun k rec hk hr => ?_) (fun rec => ?_) h).trans (by simp)
 ·
  simp only [plan_first.b1]
  rw [br_pos (by simpa using hk), chk_pos (by omega), List.drop_eq_getElem_cons hk, firstE, w64_succ (by omega), hr, Int.toNat_natCast, getD_of hk]
  by_cases h0 : l[k] = 0 <;> simp [br, h0]
 · simp [plan_first.b1, br, firstE]

theorem f2a {x : Bool} (hx : x = false) {e : Int} (he : e ≠ 0) (z : Int) : firstE [if x = true then 0 else e, z] = e := by subst hx; simp [firstE, he]
theorem f2b {x : Bool} (hx : x = true) (e z : Int) : firstE [if x = true then 0 else e, z] = z := by
 subst hx
 simp only [firstE, if_true, ne_eq, not_true_eq_false, if_false]
 split
 · rfl
 · rename_i h; exact (Classical.not_not.1 h).symm

def idxF {α : Type} (p : α → Bool) : Nat → List α → Int
 | _, [] => -1
 | k, x :: l => if p x = true then (k : Int) else idxF p (k + 1) l
theorem IndexFunc_eq {N : Nat} (hM : N ≤ 20000) {f : Int → Option Bool} {p : Int → Bool} (hf : ∀ x, f x = some (p x)) (l : List Int) (h : l.length < N) : slices_IndexFunc_ii N l f = some (idxF p 0 l) := by
 unfold slices_IndexFunc_ii
 simp only [jn]
 refine (rds_up1 l.length _ (fun k => some (idxF p k (l.drop k))) (fun k rec hk hr => ?_) (fun rec => ?_) h).trans (by simp)
 ·
  simp only [slices_IndexFunc_ii.b1]
  rw [br_pos (by simpa using hk), chk_pos (by omega), List.drop_eq_getElem_cons hk, idxF, w64_succ (by omega), hr, Int.toNat_natCast, getD_of hk, hf, bnd_val]
  cases p l[k] <;> simp [br]
 · simp [slices_IndexFunc_ii.b1, br, idxF]

abbrev Rows := List (List Int)
theorem CopyInts_eq (N : Nat) {l : List Int} (h : l.length ≤ 1000000000) : base_CopyInts N l = some l := by
 unfold base_CopyInts
 rw [chk_pos (by simpa using h)]; rfl
end Go.Sh

/-
 Whether a cell sees a point: the same on both sides.
-/
namespace Go.Sh
open Go.PW

def hgt (rows : Rows) (a b : Int) : Int := (rows.getD a.toNat default).getD b.toNat 0
section
variable {rows : Rows} {L : Nat}
end

end Go.Sh

/-
 Plans: their errors, and the levels of their cells. The same on both sides.
-/
namespace Go.Sh
open Go.PW

abbrev CellT := ByteArray × Int × Int × Int × Int × Int × Int
theorem bne_t {x : Int} (h : x ≠ 0) : (x != (0 : Int)) = true := by simpa using h
theorem bne_f {x : Int} (h : ¬ x ≠ 0) : (x != (0 : Int)) = false := by simpa using h
theorem f2 (a : Bool) (e : Int) (he : e ≠ 0) (b : Bool) (g : Int) : firstE [if a = true then 0 else e, if b = true then 0 else g] = if a = false then e else if b = true then 0 else g := by
 cases a with
 | false => rw [f2a rfl he]; rfl
 | true => rw [f2b rfl]; rfl

theorem taken {α : Type} {l : List α} {k : Nat} (h : k < l.length) : l.take k ++ [l[k]] = l.take (k + 1) := List.take_append_getElem h

end Go.Sh

/-
 The levels of the cells of a plan, and the server of a point. The same on both sides.
-/
namespace Go.Sh
open Go.PW

section
variable {rows : Rows} {L : Nat}
end

end Go.Sh

/-
 The law of levels: the level of a cell at a point, and the server of the point.
-/
namespace Go.Sh
open Go.PW

section
variable {rows : Rows} {cells : List CellT} {losses : List (Int × Int)} {N : Nat}
end

section
variable {rows : Rows} {cells : List CellT} {losses : List (Int × Int)} {L : Nat} {N : Nat}
end
end Go.Sh

/-
 The law of holes: all holes, and how many covered points each cell serves; both together are all points.
-/
namespace Go.Sh
open Go.PW

section
variable {rows : Rows} {L : Nat}
end

section
variable {rows : Rows} {cells : List CellT} {losses : List (Int × Int)} {L : Nat} {N : Nat}
end
end Go.Sh

/-
 The law of more: with more power of a cell, with a lesser least level, and with a cell more, no further point is a hole.
-/
namespace Go.Sh
open Go.PW

section
variable {rows : Rows} {cells : List CellT} {losses : List (Int × Int)} {L : Nat} {N : Nat}
end


section
variable {rows : Rows} {cells : List CellT} {losses : List (Int × Int)} {L : Nat} {N : Nat}
end


section
variable {rows : Rows} {cells : List CellT} {losses : List (Int × Int)} {L : Nat} {N : Nat}
end
end Go.Sh

/-
 The law of nets: which nets are right, with a number, and which cells are near a cell.
-/
namespace Go.Sh
open Go.PW

abbrev Prs := List (Int × Int)
def lexLt (a b : Int × Int) : Bool := decide (a.1 < b.1) || (decide (a.1 = b.1) && decide (a.2 < b.2))
theorem cmp_eq (N : Nat) (x y : Int) : cmp_Compare_int N x y = some (if x < y then -1 else if y < x then 1 else 0) := by
 unfold cmp_Compare_int cmp_isNaN_int
 simp only [bne_self_eq_false, bnd_val, br_false]
 by_cases h : x < y
 · rw [br_pos (by simpa using h), if_pos h]
 ·
  rw [br_neg (by simpa using h), if_neg h]
  by_cases h2 : y < x
  · rw [br_pos (by simpa using h2), if_pos h2]
  · rw [br_neg (by simpa using h2), if_neg h2]
theorem Compare2_eq {N : Nat} (hN : 20 < N) (a b : Int × Int) : ∃ v, slices_Compare_ii N [a.1, a.2] [b.1, b.2] = some v ∧ decide (v > 0) = lexLt b a := by
 obtain ⟨M, rfl⟩ : ∃ M, N = M + 1 + 1 + 1 := ⟨N - 3, by omega⟩
 unfold slices_Compare_ii
 simp only [jn]
 rw [rds_succ]
 simp only [slices_Compare_ii.b1]
 rw [br_pos (by rfl), chk_pos (by simp), br_neg (by rfl), chk_pos (by simp)]
 simp only [Int.toNat_zero, List.getD_cons_zero, cmp_eq, bnd_val]
 by_cases h1 : a.1 < b.1
 ·
  refine ⟨-1, by rw [if_pos h1]; rfl, ?_⟩
  unfold lexLt; simp; omega
 ·
  rw [if_neg h1]
  by_cases h2 : b.1 < a.1
  ·
   refine ⟨1, by rw [if_pos h2]; rfl, ?_⟩
   unfold lexLt; simp; omega
  ·
   rw [if_neg h2, br_neg (by rfl), w64_id (by omega), rds_succ]
   simp only [slices_Compare_ii.b1]
   rw [br_pos (by rfl), chk_pos (by simp), br_neg (by rfl), chk_pos (by simp)]
   simp only [show ((0 : Int) + 1).toNat = 1 from rfl, List.getD_cons_succ, List.getD_cons_zero, cmp_eq, bnd_val]
   by_cases h3 : a.2 < b.2
   ·
    refine ⟨-1, by rw [if_pos h3]; rfl, ?_⟩
    unfold lexLt; simp; omega
   ·
    rw [if_neg h3]
    by_cases h4 : b.2 < a.2
    ·
     refine ⟨1, by rw [if_pos h4]; rfl, ?_⟩
     unfold lexLt; simp; omega
    ·
     rw [if_neg h4, br_neg (by rfl), w64_id (by omega), rds_succ]
     simp only [slices_Compare_ii.b1]
     refine ⟨0, by rw [br_neg (by rfl), br_neg (by rfl)], ?_⟩
     unfold lexLt; simp; omega
theorem Before2_eq {N : Nat} (hN : 20 < N) (a b : Int × Int) : base_Before N [a.1, a.2] [b.1, b.2] = some (lexLt a b) := by
 obtain ⟨M, rfl⟩ : ∃ M, N = M + 1 + 1 + 1 := ⟨N - 3, by omega⟩
 unfold base_Before
 simp only [jn]
 rw [rds_succ]
 simp only [base_Before.b1]
 rw [br_pos (by rfl), chk_pos (by simp), chk_pos (by simp)]
 simp only [Int.toNat_zero, List.getD_cons_zero]
 by_cases h1 : a.1 = b.1
 ·
  rw [br_neg (by simpa using h1), w64_id (by omega), rds_succ]
  simp only [base_Before.b1]
  rw [br_pos (by rfl), chk_pos (by simp), chk_pos (by simp)]
  simp only [show ((0 : Int) + 1).toNat = 1 from rfl, List.getD_cons_succ, List.getD_cons_zero]
  by_cases h2 : a.2 = b.2
  ·
   rw [br_neg (by simpa using h2), w64_id (by omega), rds_succ]
   simp only [base_Before.b1]
   rw [br_neg (by rfl)]
   unfold lexLt; simp [h1, h2]
  ·
   rw [br_pos (by simpa using h2), chk_pos (by simp), chk_pos (by simp)]
   unfold lexLt; simp [h1]
 ·
  rw [br_pos (by simpa using h1), chk_pos (by simp), chk_pos (by simp)]
  unfold lexLt; simp [h1]

noncomputable def inC (c : Int) (n : Int) : Bool := inB n 0 (w64 (c - 1))
noncomputable def netF (c : Int) (ps : Prs) : Nat → Prs → Int × Int
 | _, [] => (0, 0)
 | k, p :: r => if (inC c p.1 && inC c p.2) = false then ((k : Int), 6) else if (decide (p.1 < p.2) && (decide (k = 0) || lexLt (ps.getD (k - 1) default) p)) = false then ((k : Int), 9) else netF c ps (k + 1) r
noncomputable def netT (c : Int) (ps : Prs) : Int × Int := if inB c 1 8 = false then (0, 2) else if 64 < ps.length then (0, 8) else netF c ps 0 ps
section
variable {N : Nat} {c : Int} {ps : Prs}
theorem CheckNet_eq (hM : N ≤ 20000) (hN : 200 < N) (hl : ps.length ≤ 66) : plan_CheckNet N c ps = some (netT c ps) := by
 unfold plan_CheckNet netT
 rw [within_eq, bnd_val, unless_eq, bnd_val, unless_eq, bnd_val, first_eq hM _ (by simp; omega), bnd_val, f2 _ _ (by decide)]
 cases hc : inB c 1 8 with
 | false => rfl
 | true =>
  simp only [Bool.true_eq_false, if_false]
  by_cases h1 : 64 < ps.length
  · rw [if_neg (by simp; omega), if_pos h1]; rfl
  rw [if_pos (by simp; omega), if_neg h1, br_neg (by rfl)]
  simp only [jn]
  refine (rds_up1 ps.length _ (fun k => some (netF c ps k (ps.drop k))) (fun k rec hk hrec => ?_) (fun rec => ?_) (by omega)).trans (by simp)
  ·
   simp only [plan_CheckNet.b1]
   have hmx : (if (0 : Int) < w64 ((k : Int) - (1 : Int)) then w64 ((k : Int) - (1 : Int)) else (0 : Int)) = ((k - 1 : Nat) : Int) := by
    rw [w64_id (by omega)]; split <;> omega
   rw [hmx]
   have hk0 : ((k : Int) == 0) = decide (k = 0) := by rw [Bool.eq_iff_iff]; simp
   rw [hk0, br_pos (by simpa using hk), chk_pos (by omega), chk_pos (by intro _; omega)]
   simp only [Int.toNat_natCast, getD_of hk]
   obtain ⟨v, hv, hvl⟩ := Compare2_eq (N := N) (by omega) ps[k] (ps.getD (k - 1) default)
   rw [hv]
   have hC : ∀ n, plan_CheckNet_1 N n c ps = some (inC c n) := fun n => by unfold plan_CheckNet_1; rw [within_eq, bnd_val]; rfl
   rw [hC, hC]
   rw [show ∀ (f : Int → Option (Int × Int)), bnd (grd (!decide (k = 0)) 0 (some v)) f = f (if k = 0 then 0 else v) from fun f => by
    by_cases h : k = 0 <;> simp [h]]
   rw [bnd_val, show ∀ (f : Bool → Option (Int × Int)), bnd (grd (inC c ps[k].1) false (some (inC c ps[k].2))) f = f (if inC c ps[k].1 = true then inC c ps[k].2 else false) from fun f => by
    cases inC c ps[k].1 <;> rfl]
   rw [show (inC c ps[k].1 && if inC c ps[k].1 = true then inC c ps[k].2 else false) = (inC c ps[k].1 && inC c ps[k].2) by cases inC c ps[k].1 <;> rfl]
   rw [unless_eq, bnd_val, unless_eq, bnd_val, first_eq hM _ (by simp; omega), bnd_val, f2 _ _ (by decide), w64_succ (by omega), hrec, List.drop_eq_getElem_cons hk, netF]
   rw [show (decide (k = 0) || decide ((if k = 0 then 0 else v) > 0)) = (decide (k = 0) || lexLt (ps.getD (k - 1) default) ps[k]) by
    by_cases h : k = 0
    · simp [h]
    · simp only [h, decide_false, Bool.false_or, if_false]; exact hvl]
   cases inC c ps[k].1 && inC c ps[k].2 with
   | false => rfl
   | true =>
    cases decide (ps[k].1 < ps[k].2) && (decide (k = 0) || lexLt (ps.getD (k - 1) default) ps[k]) <;> rfl
  · simp [plan_CheckNet.b1, br, netF]
theorem RefCheckNet_eq (hM : N ≤ 20000) (hN : 200 < N) (hl : ps.length ≤ 66) : ref09_CheckNet N c ps = some (netT c ps) := by
 unfold ref09_CheckNet netT
 rw [Within_eq, bnd_val]
 cases hc : inB c 1 8 with
 | false => rfl
 | true =>
  rw [show (!true) = false from rfl, br_neg rfl]
  simp only [Bool.true_eq_false, if_false]
  by_cases h1 : 64 < ps.length
  · rw [br_pos (by simp; omega), if_pos h1]
  rw [br_neg (by simp; omega), if_neg h1]
  simp only [jn]
  refine (rds_up1 ps.length _ (fun k => some (netF c ps k (ps.drop k))) (fun k rec hk hrec => ?_) (fun rec => ?_) (by omega)).trans (by simp)
  ·
   simp only [ref09_CheckNet.b1]
   rw [br_pos (by simpa using hk), chk_pos (by omega), chk_pos (by omega)]
   simp only [Int.toNat_natCast, getD_of hk]
   rw [Within_eq, bnd_val, Within_eq, show ∀ (f : Bool → Option (Int × Int)), bnd (grd (inB ps[k].1 0 (w64 (c - 1))) false (some (inB ps[k].2 0 (w64 (c - 1))))) f = f (if inC c ps[k].1 = true then inC c ps[k].2 else false) from fun f => by
    rw [show inB ps[k].1 0 (w64 (c - 1)) = inC c ps[k].1 from rfl, show inB ps[k].2 0 (w64 (c - 1)) = inC c ps[k].2 from rfl]
    cases inC c ps[k].1 <;> rfl]
   rw [show inB ps[k].1 0 (w64 (c - 1)) = inC c ps[k].1 from rfl]
   rw [show ((!inC c ps[k].1) || !(if inC c ps[k].1 = true then inC c ps[k].2 else false)) = !(inC c ps[k].1 && inC c ps[k].2) by cases inC c ps[k].1 <;> simp]
   rw [List.drop_eq_getElem_cons hk, netF]
   cases inC c ps[k].1 && inC c ps[k].2 with
   | false => rfl
   | true =>
    rw [show (!true) = false from rfl, br_neg rfl, if_neg (by decide)]
    rw [chk_pos (by
     intro h
     simp only [Bool.and_eq_true, decide_eq_true_eq] at h
     rw [w64_id (by omega)]; omega), chk_pos (by intro _; omega), w64_succ (by omega), hrec]
    rw [show decide (ps[k].1 ≥ ps[k].2) = !decide (ps[k].1 < ps[k].2) by rw [Bool.eq_iff_iff]; simp]
    have hk0 : decide ((k : Int) > 0) = !decide (k = 0) := by rw [Bool.eq_iff_iff]; simp; omega
    rw [hk0]
    cases decide (ps[k].1 < ps[k].2) with
    | false => rfl
    | true =>
     by_cases h0 : k = 0
     · simp [h0]
     ·
      rw [w64_id (n := (k : Int) - 1) (by omega), show ((k : Int) - 1).toNat = k - 1 by omega, Before2_eq (by omega)]
      simp only [h0, decide_false, Bool.not_false, Bool.not_true, Bool.and_self, grd_true, bnd_val, Bool.false_or, Bool.true_and]
      cases lexLt (ps.getD (k - 1) default) ps[k] <;> rfl
  · simp [ref09_CheckNet.b1, br, netF]
structure NetOK (c : Int) (ps : Prs) : Prop where
 c1 : 1 ≤ c
 c8 : c ≤ 8
 l : ps.length ≤ 64
 p : ∀ p ∈ ps, 0 ≤ p.1 ∧ p.1 < p.2 ∧ p.2 < c
theorem netF_zero (h1 : 1 ≤ c) (h8 : c ≤ 8) : ∀ (l : Prs) (k : Nat), (netF c ps k l).2 = 0 → ∀ p ∈ l, 0 ≤ p.1 ∧ p.1 < p.2 ∧ p.2 < c
 | [], _, _, p, hp => by simp at hp
 | x :: r, k, h, p, hp => by
  simp only [netF] at h
  split at h
  · simp at h
  rename_i h2
  split at h
  · simp at h
  rename_i h3
  rcases List.mem_cons.1 hp with e | hp'
  ·
   subst e
   simp only [inC, Bool.and_eq_false_iff, not_or, Bool.not_eq_false, inB_true, decide_eq_true_eq] at h2 h3
   rw [w64_id (n := c - 1) (by omega)] at h2
   omega
  · exact netF_zero h1 h8 r (k + 1) h p hp'
theorem netOK_of (h : (netT c ps).2 = 0) : NetOK c ps := by
 unfold netT at h
 split at h
 · exact absurd h (by decide)
 rename_i h1
 split at h
 · exact absurd h (by decide)
 rename_i h2
 have h3 := inB_true.1 (by simpa using h1 : inB c 1 8 = true)
 exact ⟨h3.1, h3.2, by omega, netF_zero h3.1 h3.2 ps 0 h⟩

def matL (g : Nat → Bool) : List Bool := (List.range 64).map g
theorem matL_len (g : Nat → Bool) : (matL g).length = 64 := by simp [matL]
theorem matL_at (g : Nat → Bool) {j : Nat} (hj : j < 64) : (matL g).getD j false = g j := by
 rw [getD_of (by rw [matL_len]; exact hj)]; simp [matL]
theorem matL_set (g : Nat → Bool) (i : Nat) (v : Bool) : (matL g).set i v = matL (fun j => if j = i then v else g j) := by
 refine List.ext_getElem (by simp [matL]) fun k h1 h2 => ?_
 rw [List.getElem_set]
 simp only [matL, List.getElem_map, List.getElem_range]
 by_cases h : i = k
 · rw [if_pos h, if_pos h.symm]
 · rw [if_neg h, if_neg (Ne.symm h)]
theorem matL_congr {g g' : Nat → Bool} (h : ∀ j, j < 64 → g j = g' j) : matL g = matL g' := List.map_congr_left fun j hj => h j (List.mem_range.1 hj)
theorem matL_zero : List.replicate 64 false = matL fun _ => false := by decide
def besB (ps : Prs) (a b : Nat) : Bool := ps.any fun p => (decide (p.1 = (a : Int)) && decide (p.2 = (b : Int))) || (decide (p.2 = (a : Int)) && decide (p.1 = (b : Int)))
def nearN (c : Int) (ps : Prs) (a b : Nat) : Bool := decide (a ≠ b) && (besB ps a b || (List.range c.toNat).any fun k => besB ps a k && besB ps k b)
theorem beside_loop {R : Type} (hM : N ≤ 20000) (hN : 200 < N) (h : NetOK c ps) (K : List Bool → Option R) (b : (Int × List Bool → Option R) → Int × List Bool → Option R)
  (hb : ∀ rec t m, b rec (t, m) = br (decide (t < (ps.length : Int))) (
   chk (0 ≤ t ∧ t < (ps.length : Int)) <|
   chk (0 ≤ (ps.getD t.toNat default).1 ∧ (ps.getD t.toNat default).1 < 8) <|
   chk (0 ≤ (ps.getD t.toNat default).2 ∧ (ps.getD t.toNat default).2 < 8) <|
   chk (m.length = 64) <|
   chk (0 ≤ (ps.getD t.toNat default).2 ∧ (ps.getD t.toNat default).2 < 8) <|
   chk (0 ≤ (ps.getD t.toNat default).1 ∧ (ps.getD t.toNat default).1 < 8) <|
   chk ((m.set ((((ps.getD t.toNat default).1).toNat) * 8 + (((ps.getD t.toNat default).2).toNat)) true).length = 64) <|
   rec (w64 (t + (1 : Int)), ((m.set ((((ps.getD t.toNat default).1).toNat) * 8 + (((ps.getD t.toNat default).2).toNat)) true).set ((((ps.getD t.toNat default).2).toNat) * 8 + (((ps.getD t.toNat default).1).toNat)) true))) (
   K m)) : rds b N ((0 : Int), List.replicate 64 false) = K (matL fun j => besB ps (j / 8) (j % 8)) := by
 have hl := h.l
 refine rds_spec (fun s : Int × List Bool => ∃ k : Nat, k ≤ ps.length ∧ s = ((k : Int), matL fun j => besB (ps.take k) (j / 8) (j % 8))) (fun s => ps.length - s.1.toNat) (fun _ => K (matL fun j => besB ps (j / 8) (j % 8))) (fun rec s hI hrec => ?_) N _ ⟨0, Nat.zero_le _, by rw [matL_zero]; rfl⟩ (by simp; omega)
 obtain ⟨k, hk, rfl⟩ := hI
 rw [hb]
 by_cases hkl : k < ps.length
 ·
  have hp := h.p _ (List.getElem_mem hkl)
  have h8 := h.c8
  simp only [Int.toNat_natCast, getD_of hkl]
  rw [br_pos (by simpa using hkl), chk_pos (by omega), chk_pos (by omega), chk_pos (by omega), chk_pos (matL_len _), chk_pos (by omega), chk_pos (by omega), chk_pos (by rw [List.length_set]; exact matL_len _), w64_succ (by omega)]
  refine hrec _ ⟨k + 1, hkl, ?_⟩ (by simp only [Int.toNat_natCast]; omega)
  rw [matL_set, matL_set]
  congr 1
  refine matL_congr fun j hj => ?_
  rw [← taken hkl]
  unfold besB
  rw [List.any_append]
  simp only [List.any_cons, List.any_nil, Bool.or_false]
  have e1 : decide (j = ps[k].2.toNat * 8 + ps[k].1.toNat) = (decide (ps[k].2 = ((j / 8 : Nat) : Int)) && decide (ps[k].1 = ((j % 8 : Nat) : Int))) := by
   rw [Bool.eq_iff_iff]; simp only [Bool.and_eq_true, decide_eq_true_eq]; omega
  have e2 : decide (j = ps[k].1.toNat * 8 + ps[k].2.toNat) = (decide (ps[k].1 = ((j / 8 : Nat) : Int)) && decide (ps[k].2 = ((j % 8 : Nat) : Int))) := by
   rw [Bool.eq_iff_iff]; simp only [Bool.and_eq_true, decide_eq_true_eq]; omega
  rw [← e1, ← e2]
  by_cases g1 : j = ps[k].2.toNat * 8 + ps[k].1.toNat
  · rw [if_pos g1, decide_eq_true g1]; simp
  ·
   rw [if_neg g1, decide_eq_false g1]
   by_cases g2 : j = ps[k].1.toNat * 8 + ps[k].2.toNat
   · rw [if_pos g2, decide_eq_true g2]; simp
   · rw [if_neg g2, decide_eq_false g2]; simp
 ·
  have : k = ps.length := by omega
  subst this
  rw [br_neg (by simp), List.take_length]

theorem near_loops {R : Type} (hN : 200 < N) (h : NetOK c ps) (K : List Bool → Option R) (b2 : (Int × List Bool → Option R) → Int × List Bool → Option R)
  (b3 : Int → (List Bool → Option R) → (Int × List Bool → Option R) → Int × List Bool → Option R) (b4 : Int → Int → (List Bool → Option R) → (Int × List Bool → Option R) → Int × List Bool → Option R)
  (h2 : ∀ rec a m, b2 rec (a, m) = br (decide (a < c)) (rds (b3 a fun m' => rec (w64 (a + 1), m')) N ((0 : Int), m)) (K m))
  (h3 : ∀ a K2 rec b m, b3 a K2 rec (b, m) = br (decide (b < c)) (rds (b4 a b fun m' => rec (w64 (b + 1), m')) N ((0 : Int), m)) (K2 m))
  (h4 : ∀ t47 t52 K3 rec t57 m, b4 t47 t52 K3 rec (t57, m) = br (decide (t57 < c)) (
   chk (0 ≤ t47 ∧ t47 < 8) <|
   chk (0 ≤ t52 ∧ t52 < 8) <|
   chk (m.length = 64) <|
   chk (0 ≤ t47 ∧ t47 < 8) <|
   chk (0 ≤ t52 ∧ t52 < 8) <|
   chk ((matL fun j => besB ps (j / 8) (j % 8)).length = 64) <|
   chk (0 ≤ t47 ∧ t47 < 8) <|
   chk (0 ≤ t57 ∧ t57 < 8) <|
   chk (0 ≤ t57 ∧ t57 < 8) <|
   chk (0 ≤ t52 ∧ t52 < 8) <|
   chk (0 ≤ t47 ∧ t47 < 8) <|
   chk (0 ≤ t52 ∧ t52 < 8) <|
   rec (w64 (t57 + (1 : Int)), (m.set (t47.toNat * 8 + t52.toNat) ((m.getD (t47.toNat * 8 + t52.toNat) false) || ((t47 != t52) && (((matL fun j => besB ps (j / 8) (j % 8)).getD (t47.toNat * 8 + t52.toNat) false) || (((matL fun j => besB ps (j / 8) (j % 8)).getD (t47.toNat * 8 + t57.toNat) false) && ((matL fun j => besB ps (j / 8) (j % 8)).getD (t57.toNat * 8 + t52.toNat) false)))))))) (
   K3 m)) :
  rds b2 N ((0 : Int), List.replicate 64 false) = K (matL fun j => decide (j / 8 < c.toNat) && decide (j % 8 < c.toNat) && nearN c ps (j / 8) (j % 8)) := by
 have h1 := h.c1
 have h8 := h.c8
 refine rds_spec (fun s : Int × List Bool => ∃ a : Nat, a ≤ c.toNat ∧ s = ((a : Int), matL fun j => decide (j / 8 < a) && decide (j % 8 < c.toNat) && nearN c ps (j / 8) (j % 8))) (fun s => c.toNat - s.1.toNat) (fun _ => K (matL fun j => decide (j / 8 < c.toNat) && decide (j % 8 < c.toNat) && nearN c ps (j / 8) (j % 8))) (fun rec s hI hrec => ?_) N _ ⟨0, Nat.zero_le _, by rw [matL_zero]; exact congrArg _ (matL_congr fun j _ => by simp)⟩ (by simp; omega)
 obtain ⟨a, ha, rfl⟩ := hI
 rw [h2]
 by_cases hal : a < c.toNat
 ·
  rw [br_pos (by simp; omega)]
  refine rds_spec (fun s : Int × List Bool => ∃ b : Nat, b ≤ c.toNat ∧ s = ((b : Int), matL fun j => (decide (j / 8 < a) && decide (j % 8 < c.toNat) || decide (j / 8 = a) && decide (j % 8 < b)) && nearN c ps (j / 8) (j % 8))) (fun s => c.toNat - s.1.toNat) (fun _ => K (matL fun j => decide (j / 8 < c.toNat) && decide (j % 8 < c.toNat) && nearN c ps (j / 8) (j % 8))) (fun rec1 s1 hI1 hrec1 => ?_) N _ ⟨0, Nat.zero_le _, by congr 1; exact matL_congr fun j hj => by simp⟩ (by simp; omega)
  obtain ⟨b, hb, rfl⟩ := hI1
  rw [h3]
  by_cases hbl : b < c.toNat
  ·
   rw [br_pos (by simp; omega)]
   have hix : a * 8 + b < 64 := by omega
   have hd : (a * 8 + b) / 8 = a ∧ (a * 8 + b) % 8 = b := by omega
   refine rds_spec (fun s : Int × List Bool => ∃ k : Nat, k ≤ c.toNat ∧ s = ((k : Int), matL fun j => if j = a * 8 + b then (decide (a ≠ b) && ((decide (0 < k) && besB ps a b) || (List.range k).any fun k => besB ps a k && besB ps k b)) else (decide (j / 8 < a) && decide (j % 8 < c.toNat) || decide (j / 8 = a) && decide (j % 8 < b)) && nearN c ps (j / 8) (j % 8))) (fun s => c.toNat - s.1.toNat) (fun _ => K (matL fun j => decide (j / 8 < c.toNat) && decide (j % 8 < c.toNat) && nearN c ps (j / 8) (j % 8))) (fun rec2 s2 hI2 hrec2 => ?_) N _ ⟨0, Nat.zero_le _, by
    congr 1
    refine matL_congr fun j hj => ?_
    by_cases g : j = a * 8 + b
    ·
     subst g
     rw [if_pos rfl, hd.1, hd.2]; simp
    · rw [if_neg g]⟩ (by simp; omega)
   obtain ⟨k, hk, rfl⟩ := hI2
   rw [h4]
   by_cases hkl : k < c.toNat
   ·
    rw [br_pos (by simp; omega), chk_pos (by omega), chk_pos (by omega), chk_pos (matL_len _), chk_pos (by omega), chk_pos (by omega), chk_pos (matL_len _), chk_pos (by omega), chk_pos (by omega), chk_pos (by omega), chk_pos (by omega), chk_pos (by omega), chk_pos (by omega), w64_succ (by omega)]
    refine hrec2 _ ⟨k + 1, hkl, ?_⟩ (by simp only [Int.toNat_natCast]; omega)
    simp only [Int.toNat_natCast]
    rw [matL_at _ hix, matL_at _ hix, matL_at _ (show a * 8 + k < 64 by omega), matL_at _ (show k * 8 + b < 64 by omega), matL_set]
    congr 1
    refine matL_congr fun j hj => ?_
    rw [hd.1, hd.2, show (a * 8 + k) / 8 = a by omega, show (a * 8 + k) % 8 = k by omega, show (k * 8 + b) / 8 = k by omega, show (k * 8 + b) % 8 = b by omega]
    have hne : ((a : Int) != (b : Int)) = decide (a ≠ b) := by rw [Bool.eq_iff_iff]; simp; omega
    by_cases g : j = a * 8 + b
    ·
     rw [if_pos g, if_pos rfl, if_pos g, hne, List.range_succ, List.any_append]
     simp only [List.any_cons, List.any_nil, Bool.or_false, Nat.zero_lt_succ, decide_true, Bool.true_and]
     cases decide (a ≠ b) <;> cases decide (0 < k) <;> cases besB ps a b <;> cases (List.range k).any (fun k => besB ps a k && besB ps k b) <;> simp
    · rw [if_neg g, if_neg g, if_neg g]
   ·
    have : k = c.toNat := by omega
    subst this
    rw [br_neg (by simp; omega), w64_succ (by omega)]
    refine hrec1 _ ⟨b + 1, hbl, ?_⟩ (by simp only [Int.toNat_natCast]; omega)
    congr 1
    refine matL_congr fun j hj => ?_
    by_cases g : j = a * 8 + b
    ·
     subst g
     rw [if_pos rfl, hd.1, hd.2]
     unfold nearN
     rw [show decide (0 < c.toNat) = true by simp; omega]
     simp
    ·
     rw [if_neg g]
     have : (decide (j / 8 = a) && decide (j % 8 < b)) = (decide (j / 8 = a) && decide (j % 8 < b + 1)) := by
      rw [Bool.eq_iff_iff]; simp only [Bool.and_eq_true, decide_eq_true_eq]; omega
     rw [this]
  ·
   have : b = c.toNat := by omega
   subst this
   rw [br_neg (by simp; omega), w64_succ (by omega)]
   refine hrec _ ⟨a + 1, hal, ?_⟩ (by simp only [Int.toNat_natCast]; omega)
   congr 1
   refine matL_congr fun j hj => ?_
   have : (decide (j / 8 < a) && decide (j % 8 < c.toNat) || decide (j / 8 = a) && decide (j % 8 < c.toNat)) = (decide (j / 8 < a + 1) && decide (j % 8 < c.toNat)) := by
    rw [Bool.eq_iff_iff]; simp only [Bool.or_eq_true, Bool.and_eq_true, decide_eq_true_eq]; omega
   rw [this]
 ·
  have : a = c.toNat := by omega
  subst this
  rw [br_neg (by simp; omega)]
theorem bes_min (h : NetOK c ps) (a b : Nat) : (ps.any fun p => (p.1 == (if (b : Int) < (a : Int) then (b : Int) else (a : Int))) && (p.2 == (if (a : Int) < (b : Int) then (b : Int) else (a : Int)))) = besB ps a b := by
 unfold besB
 rw [Bool.eq_iff_iff, List.any_eq_true, List.any_eq_true]
 constructor
 ·
  rintro ⟨p, hp, h1⟩
  refine ⟨p, hp, ?_⟩
  have := h.p p hp
  simp only [Bool.and_eq_true, beq_iff_eq, Bool.or_eq_true, decide_eq_true_eq] at h1 ⊢
  split at h1 <;> split at h1 <;> omega
 ·
  rintro ⟨p, hp, h1⟩
  refine ⟨p, hp, ?_⟩
  have := h.p p hp
  simp only [Bool.and_eq_true, beq_iff_eq, Bool.or_eq_true, decide_eq_true_eq] at h1 ⊢
  split <;> split <;> omega
theorem neighbours_eq (hM : N ≤ 20000) (hN : 200 < N) (h : NetOK c ps) (a b : Nat) : ref09_neighbours N c ps (a : Int) (b : Int) = some (besB ps a b) := by
 have hl := h.l
 unfold ref09_neighbours
 simp only [jn]
 rw [← bes_min h]
 refine (rds_up1 ps.length _ (fun k => some ((ps.drop k).any fun p => (p.1 == (if (b : Int) < (a : Int) then (b : Int) else (a : Int))) && (p.2 == (if (a : Int) < (b : Int) then (b : Int) else (a : Int))))) (fun k rec hk hr => ?_) (fun rec => ?_) (show ps.length < N by omega)).trans (by simp)
 ·
  simp only [ref09_neighbours.b1]
  rw [br_pos (by simpa using hk), chk_pos (by omega), List.drop_eq_getElem_cons hk, List.any_cons, w64_succ (by omega), hr]
  simp only [Int.toNat_natCast, getD_of hk]
  cases ((ps[k].1 == (if (b : Int) < (a : Int) then (b : Int) else (a : Int))) && (ps[k].2 == (if (a : Int) < (b : Int) then (b : Int) else (a : Int)))) <;> rfl
 · simp [ref09_neighbours.b1, br]
theorem IsNear_eq (hM : N ≤ 20000) (hN : 200 < N) (h : NetOK c ps) (a b : Nat) : ref09_IsNear N c ps (a : Int) (b : Int) = some (nearN c ps a b) := by
 have h1 := h.c1
 have h8 := h.c8
 unfold ref09_IsNear nearN
 by_cases hab : a = b
 · rw [br_pos (by simp [hab])]; simp [hab]
 ·
  rw [br_neg (by simp; omega), neighbours_eq hM hN h, bnd_val, decide_eq_true hab, Bool.true_and]
  cases hb : besB ps a b with
  | true => rfl
  | false =>
   rw [br_neg rfl, Bool.false_or]
   simp only [jn]
   refine (rds_up1 c.toNat _ (fun k => some ((List.range' k (c.toNat - k)).any fun k => besB ps a k && besB ps k b)) (fun k rec hk hr => ?_) (fun rec => ?_) (by omega)).trans (by simp [List.range_eq_range'])
   ·
    simp only [ref09_IsNear.b1]
    rw [br_pos (by simp; omega), neighbours_eq hM hN h, bnd_val, neighbours_eq hM hN h, w64_succ (by omega), hr]
    rw [show c.toNat - k = c.toNat - (k + 1) + 1 by omega, List.range'_succ, List.any_cons]
    cases besB ps a k <;> cases besB ps k b <;> rfl
   ·
    simp only [ref09_IsNear.b1]
    rw [br_neg (by simp; omega)]; simp
theorem NetInts_self (hM : N ≤ 20000) {a : List Int} (h : a.length < N) : base_Ints N a a = some true := by
 unfold base_Ints
 rw [br_neg (by simp)]
 simp only [jn]
 refine (rds_up1 a.length _ (fun _ => some true) (fun k rec hk hr => ?_) (fun rec => ?_) h).trans rfl
 ·
  simp only [base_Ints.b1]
  rw [br_pos (by simpa using hk), chk_pos (by omega), chk_pos (by omega), br_neg (by simp), w64_succ (by omega), hr]
 · simp [base_Ints.b1, br]
end
end Go.Sh

/-
 Lists with a number for each cell, and the first pair of near cells of which something is so.
-/
namespace Go.Sh
open Go.PW
section
variable {N : Nat} {c : Int} {ps : Prs}

theorem idxF_any {α : Type} (p : α → Bool) : ∀ (l : List α) (k : Nat), decide (idxF p k l ≥ 0) = l.any p
 | [], _ => by simp [idxF]
 | x :: l, k => by
  unfold idxF
  rw [List.any_cons]
  cases h : p x with
  | true => rw [if_pos rfl]; simp
  | false => rw [if_neg (by simp), idxF_any p l (k + 1)]; rfl
def listE (c : Int) (lo hi : Int) (l : List Int) : Int := if (l.length : Int) ≠ c then 10 else if l.any (fun x => !(inB x lo hi)) = true then 2 else 0
theorem listErr_eq (hM : N ≤ 20000) (hN : 200 < N) (w : List Bool) {l : List Int} (hl : l.length ≤ 10) {right : Int → Option Bool} {lo hi : Int} (hr : ∀ x, right x = some (inB x lo hi)) :
  plan_web_listErr N c w l right = some (listE c lo hi l) := by
 unfold plan_web_listErr slices_ContainsFunc_ii
 rw [IndexFunc_eq hM (p := fun x => !(inB x lo hi)) (fun x => by simp only [plan_web_listErr_1]; rw [hr, bnd_val]) l (by omega), bnd_val, bnd_val, unless_eq, bnd_val, unless_eq, bnd_val, first_eq hM _ (by simp; omega), bnd_val, idxF_any]
 unfold listE
 by_cases h : (l.length : Int) = c
 ·
  rw [show ((l.length : Int) == c) = true by simpa using h, if_neg (not_not_intro h)]
  cases l.any (fun x => !(inB x lo hi)) <;> simp [firstE]
 · rw [show ((l.length : Int) == c) = false by simpa using h, if_pos h]; simp [firstE]
theorem listE_zero {lo hi : Int} {l : List Int} (h : listE c lo hi l = 0) : (l.length : Int) = c ∧ ∀ x ∈ l, lo ≤ x ∧ x ≤ hi := by
 unfold listE at h
 split at h
 · cases h
 rename_i h1
 split at h
 · cases h
 rename_i h2
 refine ⟨by simpa using h1, fun x hx => ?_⟩
 have h3 : (l.any fun x => !(inB x lo hi)) = false := by simpa using h2
 have := List.any_eq_false.1 h3 x hx
 simpa [inB_true] using this

def inn (f : Nat → Nat → Bool) (m a b : Nat) : Option Nat := ((List.range m).drop b).find? (f a)
def out (f : Nat → Nat → Bool) (m a : Nat) : Option (Nat × Nat) := ((List.range m).drop a).findSome? fun a => (inn f m a (a + 1)).map fun b => (a, b)
theorem drop_range {m b : Nat} (h : b < m) : (List.range m).drop b = b :: (List.range m).drop (b + 1) := by
 rw [List.drop_eq_getElem_cons (by simpa using h)]; simp
theorem inn_step {f : Nat → Nat → Bool} {m a b : Nat} (h : b < m) : inn f m a b = if f a b = true then some b else inn f m a (b + 1) := by
 unfold inn
 rw [drop_range h, List.find?_cons]
 cases f a b <;> rfl
theorem inn_end {f : Nat → Nat → Bool} {m a : Nat} : inn f m a m = none := by unfold inn; rw [List.drop_eq_nil_of_le (by simp)]; rfl
theorem out_step {f : Nat → Nat → Bool} {m a : Nat} (h : a < m) : out f m a = match inn f m a (a + 1) with | some b => some (a, b) | none => out f m (a + 1) := by
 unfold out
 rw [drop_range h, List.findSome?_cons]
 cases inn f m a (a + 1) <;> rfl
theorem out_end {f : Nat → Nat → Bool} {m : Nat} : out f m m = none := by unfold out; rw [List.drop_eq_nil_of_le (by simp)]; rfl
theorem pair_loop {R : Type} (m : Nat) (hm : m ≤ 8) (f : Nat → Nat → Bool) (Y : Nat → Nat → Option R) (Z : Option R) (b1 : (Int → Option R) → Int → Option R) (b2 : Int → (Unit → Option R) → (Int → Option R) → Int → Option R)
  (h1 : ∀ rec (a : Nat), b1 rec (a : Int) = br (decide ((a : Int) < (m : Int))) (rds (b2 a (fun _ => rec (w64 ((a : Int) + 1)))) N (w64 ((a : Int) + 1))) Z)
  (h2 : ∀ K rec (a b : Nat), a < b → b < m → b2 a K rec (b : Int) = if f a b = true then Y a b else rec ((b + 1 : Nat) : Int))
  (h2e : ∀ K rec (a : Nat), a < m → b2 a K rec (m : Int) = K ()) (hN : 200 < N) :
  rds b1 N 0 = match out f m 0 with | some (a, b) => Y a b | none => Z := by
 refine rds_spec (b := b1) (fun s => ∃ a : Nat, a ≤ m ∧ s = (a : Int)) (fun s => m - s.toNat) (fun s => match out f m s.toNat with | some (a, b) => Y a b | none => Z) (fun rec s hI hrec => ?_) N 0 ⟨0, Nat.zero_le _, rfl⟩ (by simp; omega)
 obtain ⟨a, ha, rfl⟩ := hI
 rw [h1, Int.toNat_natCast]
 by_cases hal : a < m
 ·
  rw [br_pos (by simpa using hal), w64_succ (by omega)]
  have hr := hrec ((a + 1 : Nat) : Int) ⟨a + 1, hal, rfl⟩ (by simp only [Int.toNat_natCast]; omega)
  rw [Int.toNat_natCast] at hr
  have key := rds_spec (b := b2 a (fun _ => rec ((a + 1 : Nat) : Int))) (fun s => ∃ b : Nat, a < b ∧ b ≤ m ∧ s = (b : Int)) (fun s => m - s.toNat) (fun s => match inn f m a s.toNat with | some b => Y a b | none => rec ((a + 1 : Nat) : Int)) (fun rec1 s hI1 hrec1 => by
   obtain ⟨b, hab, hb, rfl⟩ := hI1
   rw [Int.toNat_natCast]
   by_cases hbl : b < m
   ·
    rw [h2 _ _ _ _ hab hbl, inn_step hbl]
    cases hf : f a b with
    | true => rfl
    | false =>
     rw [if_neg (by simp), if_neg (by simp), hrec1 _ ⟨b + 1, by omega, hbl, rfl⟩ (by simp only [Int.toNat_natCast]; omega), Int.toNat_natCast]
   ·
    have : b = m := by omega
    subst this
    rw [h2e _ _ _ hal, inn_end]) N ((a + 1 : Nat) : Int) ⟨a + 1, by omega, hal, rfl⟩ (by simp only [Int.toNat_natCast]; omega)
  rw [Int.toNat_natCast] at key
  rw [key, out_step hal, hr]
  cases inn f m a (a + 1) <;> rfl
 ·
  have : a = m := by omega
  subst this
  rw [br_neg (by simp), out_end]

def nearM (c : Int) (ps : Prs) : List Bool := matL fun j => decide (j / 8 < c.toNat) && decide (j % 8 < c.toNat) && nearN c ps (j / 8) (j % 8)
theorem nearM_len : (nearM c ps).length = 64 := matL_len _
theorem nearM_at (h : NetOK c ps) {a b : Nat} (ha : a < c.toNat) (hb : b < c.toNat) : (nearM c ps).getD (a * 8 + b) false = nearN c ps a b := by
 have := h.c8
 unfold nearM
 rw [matL_at _ (by omega), show (a * 8 + b) / 8 = a by omega, show (a * 8 + b) % 8 = b by omega, decide_eq_true ha, decide_eq_true hb]; rfl
theorem firstPair_eq (hN : 200 < N) (h : NetOK c ps) (is_ : Int → Int → Option Bool) (g : Nat → Nat → Bool) (hg : ∀ a b : Nat, a < b → b < c.toNat → is_ a b = some (g a b)) :
  plan_web_firstPair N c (nearM c ps) is_ = match out (fun a b => nearN c ps a b && g a b) c.toNat 0 with | some (a, b) => some ((a : Int), (b : Int), 0) | none => some (0, 0, 12) := by
 have h1 := h.c1
 have h8 := h.c8
 unfold plan_web_firstPair
 simp only [jn]
 refine pair_loop c.toNat (by omega) (fun a b => nearN c ps a b && g a b) (fun a b => some ((a : Int), (b : Int), 0)) (some (0, 0, 12)) _ (fun a K => plan_web_firstPair.b2 N c (nearM c ps) is_ a K) (fun rec a => ?_) (fun K rec a b hab hb => ?_) (fun K rec a ha => ?_) hN
 ·
  simp only [plan_web_firstPair.b1, jn]
  rw [show ((c.toNat : Nat) : Int) = c by omega]
 ·
  simp only [plan_web_firstPair.b2]
  rw [br_pos (by simp; omega), chk_pos (by omega), chk_pos nearM_len, chk_pos (by omega), chk_pos nearM_len, Int.toNat_natCast, Int.toNat_natCast, nearM_at h (by omega) hb, hg a b hab hb, bnd_val, w64_succ (by omega)]
  cases nearN c ps a b <;> cases g a b <;> rfl
 ·
  simp only [plan_web_firstPair.b2]
  rw [br_neg (by simp; omega)]
theorem mem_getD {l : List Int} {k : Nat} (h : k < l.length) : l.getD k 0 ∈ l := by rw [getD_of h]; exact List.getElem_mem h
end
end Go.Sh

/-
 The law of roots: the first roots of all cells, and the first clash of any.
-/
namespace Go.Sh
open Go.PW
section
variable {N : Nat} {c : Int} {ps : Prs}

theorem besB_comm (ps : Prs) (a b : Nat) : besB ps a b = besB ps b a := by
 unfold besB
 congr 1
 funext p
 rw [Bool.or_comm]
 congr 1 <;> rw [Bool.and_comm]
theorem nearN_comm (a b : Nat) : nearN c ps a b = nearN c ps b a := by
 unfold nearN
 rw [besB_comm ps a b, show decide (a ≠ b) = decide (b ≠ a) by congr 1; exact propext ⟨Ne.symm, Ne.symm⟩]
 congr 3
 funext k
 rw [besB_comm ps a k, besB_comm ps k b, Bool.and_comm]

def cfB (c : Int) (ps : Prs) (nd os : List Int) (i : Nat) (v : Int) (k : Nat) : Bool := nearN c ps i k && (decide (v < os.getD k 0 + nd.getD k 0) && decide (os.getD k 0 < v + nd.getD i 0))
def okR (c : Int) (ps : Prs) (nd os : List Int) (i : Nat) (v : Nat) : Bool := !((List.range os.length).any (cfB c ps nd os i (v : Int)))
def topR (nd : List Int) (al : Int) (i : Nat) : Nat := (al - nd.getD i 0 + 1).toNat
def fr (c : Int) (ps : Prs) (nd : List Int) (al : Int) (os : List Int) (i v : Nat) : Option Nat := ((List.range (topR nd al i)).drop v).find? (okR c ps nd os i)
structure RtOK (c : Int) (ps : Prs) (nd : List Int) (al : Int) (os : List Int) : Prop where
 b : ∀ k, k < os.length → 0 ≤ os.getD k 0 ∧ os.getD k 0 + nd.getD k 0 ≤ al
 f : ∀ k j, j < k → k < os.length → cfB c ps nd os k (os.getD k 0) j = false
theorem RtOK.nil {nd : List Int} {al : Int} : RtOK c ps nd al [] := ⟨fun k hk => by simp at hk, fun k j _ hk => by simp at hk⟩
structure NdOK (c : Int) (nd : List Int) (al : Int) : Prop where
 l : (nd.length : Int) = c
 b : ∀ x ∈ nd, 1 ≤ x ∧ x ≤ 20
 a : 1 ≤ al ∧ al ≤ 138
theorem NdOK.at_ {nd : List Int} {al : Int} (h : NdOK c nd al) {k : Nat} (hk : k < c.toNat) : 1 ≤ nd.getD k 0 ∧ nd.getD k 0 ≤ 20 := h.b _ (mem_getD (by have := h.l; omega))
theorem RtOK.bd {nd os : List Int} {al : Int} (h : RtOK c ps nd al os) (hd : NdOK c nd al) (hl : os.length ≤ c.toNat) {k : Nat} (hk : k < os.length) : 0 ≤ os.getD k 0 ∧ os.getD k 0 ≤ 137 := by
 have h1 := h.b k hk
 have h2 := hd.at_ (k := k) (by omega)
 have h3 := hd.a
 omega
end
end Go.Sh

/-
 Kinds: the search of the program. (Made to stand on the walks of kinds.)
-/
namespace Go.Sh
open Go.PW
section
variable {N : Nat} {c : Int} {ps : Prs}
def takenB (c : Int) (ps : Prs) (so : List Int) (k : Int) : Bool := (List.range so.length).any fun j => (so.getD j 0 == k) && nearN c ps so.length j
def kindsF (c : Int) (ps : Prs) (most : Nat) : Nat → List Int → List Int
 | 0, so => so
 | n + 1, so => ((List.range most).findSome? fun k : Nat => if takenB c ps so (k : Int) = true then none else (fun r : List Int => if r.isEmpty = true then none else some r) (kindsF c ps most n (so ++ [(k : Int)]))).getD []
theorem taken_loop (hN : 200 < N) (h : NetOK c ps) {so : List Int} (hs : so.length < c.toNat) (k : Int) (K : Bool → Option (List Int)) :
  rds (plan_web_kinds.b2 N (nearM c ps) so k K) N (false, (0 : Int)) = K (takenB c ps so k) := by
 have hc8 := h.c8
 refine rds_spec (fun s : Bool × Int => ∃ j : Nat, j ≤ so.length ∧ s = ((List.range j).any (fun j => (so.getD j 0 == k) && nearN c ps so.length j), (j : Int))) (fun s => so.length - s.2.toNat) (fun _ => K (takenB c ps so k)) (fun rec s hI hrec => ?_) N (false, 0) ⟨0, Nat.zero_le _, rfl⟩ (by simp; omega)
 obtain ⟨j, hj, rfl⟩ := hI
 simp only [plan_web_kinds.b2, Int.toNat_natCast]
 by_cases hjl : j < so.length
 ·
  rw [br_pos (by simpa using hjl), chk_pos (by omega), chk_pos (by omega), chk_pos nearM_len, chk_pos (by omega), chk_pos nearM_len, nearM_at h hs (by omega), w64_succ (by omega)]
  refine hrec _ ⟨j + 1, hjl, ?_⟩ (by simp only [Int.toNat_natCast]; omega)
  rw [List.range_succ, List.any_append]; simp
 ·
  have e : j = so.length := by omega
  rw [br_neg (by simp; omega), e]; rfl
theorem kinds_eq (hN : 200 < N) (h : NetOK c ps) {most : Nat} (hm : most ≤ 8) : ∀ (n : Nat) (so : List Int) (m : Nat), so.length + n = c.toNat → n < m →
  rds (plan_web_kinds.b N) m (c, nearM c ps, so, (most : Int)) = some (kindsF c ps most n so) := by
 have hc8 := h.c8
 have hc1 := h.c1
 intro n
 induction n with
 | zero =>
  intro so m hl hm'
  obtain ⟨m, rfl⟩ : ∃ k, m = k + 1 := ⟨m - 1, by omega⟩
  rw [rds_succ]
  simp only [plan_web_kinds.b, kindsF]
  rw [br_pos (by simp; omega), chk_pos (by omega)]
 | succ n ih =>
  intro so m hl hm'
  obtain ⟨m, rfl⟩ : ∃ k, m = k + 1 := ⟨m - 1, by omega⟩
  rw [rds_succ]
  simp only [plan_web_kinds.b, jn]
  rw [br_neg (by simp; omega)]
  have hself : ∀ k : Nat, rds (plan_web_kinds.b N) m (c, nearM c ps, so ++ [(k : Int)], (most : Int)) = some (kindsF c ps most n (so ++ [(k : Int)])) := fun k => ih _ m (by simp; omega) (by omega)
  refine (rds_up1 most _ (fun k => some ((((List.range most).drop k).findSome? fun k : Nat => if takenB c ps so (k : Int) = true then none else (fun r : List Int => if r.isEmpty = true then none else some r) (kindsF c ps most n (so ++ [(k : Int)]))).getD [])) (fun k rec hk hr => ?_) (fun rec => ?_) (by omega)).trans (by rw [List.drop_zero]; rfl)
  ·
   simp only [plan_web_kinds.b1, jn]
   rw [br_pos (by simpa using hk), taken_loop hN h (by omega), drop_range hk, List.findSome?_cons, w64_succ (by omega)]
   cases takenB c ps so (k : Int) with
   | true => rw [br_pos rfl, hr]; rfl
   | false =>
    rw [br_neg rfl]
    unfold slices_Clone_ii
    rw [chk_pos (by omega), bnd_val, chk_pos (by simp; omega), hself, bnd_val]
    cases hE : (kindsF c ps most n (so ++ [(k : Int)])).isEmpty with
    | true => simp only [Bool.not_true, br_false, hr, hE]; rfl
    | false => simp only [Bool.not_false, br_true, hE]; rfl
  ·
   simp only [plan_web_kinds.b1]
   rw [br_neg (by simp), List.drop_eq_nil_of_le (by simp)]
   rfl
theorem fresh_nat : ∀ (n : Nat) (l : List Int), l.length < n → ∃ k : Nat, k < n ∧ (k : Int) ∉ l
 | 0, l, h => by omega
 | n + 1, l, h => by
  by_cases hn : (n : Int) ∈ l
  ·
   obtain ⟨k, hk, hkl⟩ := fresh_nat n (l.erase (n : Int)) (by rw [List.length_erase_of_mem hn]; have := List.length_pos_of_mem hn; omega)
   refine ⟨k, by omega, fun hm => hkl ?_⟩
   exact (List.mem_erase_of_ne (by omega)).2 hm
  · exact ⟨n, by omega, hn⟩
theorem kindsF_ne (hc : 1 ≤ c) {most : Nat} (hm : c.toNat ≤ most) : ∀ (n : Nat) (so : List Int), so.length + n = c.toNat → kindsF c ps most n so ≠ []
 | 0, so, h => by
  simp only [kindsF]
  intro e
  rw [e] at h
  simp at h; omega
 | n + 1, so, h => by
  simp only [kindsF]
  obtain ⟨k, hk, hkl⟩ := fresh_nat most so (by omega)
  have ht : takenB c ps so (k : Int) = false := by
   unfold takenB
   rw [List.any_eq_false]
   intro j hj
   rw [List.mem_range] at hj
   have : (so.getD j 0 == (k : Int)) = false := by rw [beq_eq_false_iff_ne]; exact fun e => hkl (e ▸ mem_getD hj)
   rw [this]; simp
  have hne := kindsF_ne hc hm n (so ++ [(k : Int)]) (by simp; omega)
  cases hf : (List.range most).findSome? fun k : Nat => if takenB c ps so (k : Int) = true then none else (fun r : List Int => if r.isEmpty = true then none else some r) (kindsF c ps most n (so ++ [(k : Int)])) with
  | none =>
   rw [List.findSome?_eq_none_iff] at hf
   have := hf k (List.mem_range.2 hk)
   rw [ht] at this
   simp only [Bool.false_eq_true, if_false] at this
   split at this
   ·
    rename_i he
    exact absurd (List.isEmpty_iff.1 he) hne
   · cases this
  | some r =>
   simp only [Option.getD_some]
   obtain ⟨k', _, hk'⟩ := List.exists_of_findSome?_eq_some hf
   split at hk'
   · cases hk'
   ·
    simp only at hk'
    split at hk'
    · cases hk'
    ·
     rename_i he
     cases hk'
     intro e
     rw [e] at he
     exact he rfl
theorem taken_comm (so : List Int) (k : Int) : (List.range so.length).all (fun j => !((so.getD j 0 == k) && nearN c ps so.length j)) = !(takenB c ps so k) := by
 unfold takenB; rw [List.not_any_eq_all_not]
theorem right_loop (hM : N ≤ 20000) (hN : 200 < N) (h : NetOK c ps) {so : List Int} (hs : so.length < c.toNat) (k : Int) (K : Bool → Option (List Int × Bool)) :
  rds (ref09_kinds.b2 N c ps so k K) N (true, (0 : Int)) = K (!(takenB c ps so k)) := by
 have hc8 := h.c8
 rw [← taken_comm]
 refine rds_spec (fun s : Bool × Int => ∃ j : Nat, j ≤ so.length ∧ s = ((List.range j).all (fun j => !((so.getD j 0 == k) && nearN c ps so.length j)), (j : Int))) (fun s => so.length - s.2.toNat) (fun _ => K ((List.range so.length).all fun j => !((so.getD j 0 == k) && nearN c ps so.length j))) (fun rec s hI hrec => ?_) N (true, 0) ⟨0, Nat.zero_le _, rfl⟩ (by simp; omega)
 obtain ⟨j, hj, rfl⟩ := hI
 simp only [ref09_kinds.b2, Int.toNat_natCast]
 by_cases hjl : j < so.length
 ·
  have hS : (List.range (j + 1)).all (fun j => !((so.getD j 0 == k) && nearN c ps so.length j)) = ((List.range j).all (fun j => !((so.getD j 0 == k) && nearN c ps so.length j)) && !((so.getD j 0 == k) && nearN c ps so.length j)) := by
   rw [List.range_succ, List.all_append]; simp
  have hend := hrec ((List.range (j + 1)).all (fun j => !((so.getD j 0 == k) && nearN c ps so.length j)), ((j + 1 : Nat) : Int)) ⟨j + 1, hjl, rfl⟩ (by simp only [Int.toNat_natCast]; omega)
  rw [hS] at hend
  rw [br_pos (by simpa using hjl), chk_pos (fun _ => by omega), IsNear_eq hM hN h, w64_succ (by omega), nearN_comm j so.length]
  rw [show ((so.getD j 0) != k) = !(so.getD j 0 == k) from rfl]
  cases hR : (List.range j).all (fun j => !((so.getD j 0 == k) && nearN c ps so.length j)) <;> rw [hR] at hend <;> cases hE : (so.getD j 0 == k) <;> rw [hE] at hend <;> cases hn : nearN c ps so.length j <;> rw [hn] at hend <;> exact hend
 ·
  have e : j = so.length := by omega
  rw [br_neg (by simp; omega), e]
theorem refKinds_eq (hM : N ≤ 20000) (hN : 200 < N) (h : NetOK c ps) {most : Nat} (hm : most ≤ 8) : ∀ (n : Nat) (so : List Int) (m : Nat), so.length + n = c.toNat → n < m →
  rds (ref09_kinds.b N) m (c, ps, (most : Int), so) = some (kindsF c ps most n so, !(kindsF c ps most n so).isEmpty) := by
 have hc8 := h.c8
 have hc1 := h.c1
 intro n
 induction n with
 | zero =>
  intro so m hl hm'
  obtain ⟨m, rfl⟩ : ∃ k, m = k + 1 := ⟨m - 1, by omega⟩
  rw [rds_succ]
  simp only [ref09_kinds.b, kindsF]
  rw [br_pos (by simp; omega)]
  cases so with
  | nil => simp at hl; omega
  | cons x l => rfl
 | succ n ih =>
  intro so m hl hm'
  obtain ⟨m, rfl⟩ : ∃ k, m = k + 1 := ⟨m - 1, by omega⟩
  rw [rds_succ]
  simp only [ref09_kinds.b, jn]
  rw [br_neg (by simp; omega)]
  have hself : ∀ k : Nat, rds (ref09_kinds.b N) m (c, ps, (most : Int), so ++ [(k : Int)]) = some (kindsF c ps most n (so ++ [(k : Int)]), !(kindsF c ps most n (so ++ [(k : Int)])).isEmpty) := fun k => ih _ m (by simp; omega) (by omega)
  refine (rds_up1 most _ (fun k => some ((fun r : List Int => (r, !r.isEmpty)) ((((List.range most).drop k).findSome? fun k : Nat => if takenB c ps so (k : Int) = true then none else (fun r : List Int => if r.isEmpty = true then none else some r) (kindsF c ps most n (so ++ [(k : Int)]))).getD []))) (fun k rec hk hr => ?_) (fun rec => ?_) (by omega)).trans (by rw [List.drop_zero]; rfl)
  ·
   simp only [ref09_kinds.b1, jn]
   rw [br_pos (by simpa using hk), right_loop hM hN h (by omega), drop_range hk, List.findSome?_cons, w64_succ (by omega)]
   cases takenB c ps so (k : Int) with
   | true => rw [br_pos (show (!!true) = true from rfl), hr]; rfl
   | false =>
    rw [br_neg (show (!!false) = false from rfl), CopyInts_eq N (by omega), bnd_val, chk_pos (by simp; omega), hself, bnd_val]
    cases hE : (kindsF c ps most n (so ++ [(k : Int)])).isEmpty with
    | true => simp only [Bool.not_true, br_false, hr, hE]; rfl
    | false => simp only [Bool.not_false, br_true, hE, Bool.false_eq_true, if_false, Option.getD_some]
  ·
   simp only [ref09_kinds.b1]
   rw [br_neg (by simp), List.drop_eq_nil_of_le (by simp)]
   rfl
theorem kindsAt (hN : 200 < N) (h : NetOK c ps) {most : Nat} (hm : most ≤ 8) : plan_web_kinds N c (nearM c ps) [] (most : Int) = some (kindsF c ps most c.toNat []) := by
 have := h.c8
 exact kinds_eq hN h hm c.toNat [] N (by simp) (by omega)
theorem refKindsAt (hM : N ≤ 20000) (hN : 200 < N) (h : NetOK c ps) {most : Nat} (hm : most ≤ 8) : ref09_kinds N c ps (most : Int) [] = some (kindsF c ps most c.toNat [], !(kindsF c ps most c.toNat []).isEmpty) := by
 have := h.c8
 exact refKinds_eq hM hN h hm c.toNat [] N (by simp) (by omega)
def fewF (c : Int) (ps : Prs) : Nat → Nat → Nat
 | 0, k => k
 | n + 1, k => if (kindsF c ps k c.toNat []).isEmpty = true then fewF c ps n (k + 1) else k
theorem RefFewest_eq (hM : N ≤ 20000) (hN : 200 < N) (h : NetOK c ps) : ref09_FewestKinds N c ps = some (kindsF c ps (fewF c ps (c.toNat - 1) 1) c.toNat [], ((fewF c ps (c.toNat - 1) 1 : Nat) : Int)) := by
 have h1 := h.c1
 have h8 := h.c8
 unfold ref09_FewestKinds
 simp only [jn]
 refine (rds_spec (fun s : Int => ∃ k : Nat, 1 ≤ k ∧ k ≤ c.toNat ∧ s = (k : Int)) (fun s => c.toNat - s.toNat) (fun s => some (kindsF c ps (fewF c ps (c.toNat - s.toNat) s.toNat) c.toNat [], ((fewF c ps (c.toNat - s.toNat) s.toNat : Nat) : Int))) (fun rec s hI hrec => ?_) N 1 ⟨1, Nat.le_refl _, by omega, rfl⟩ (by simp; omega)).trans rfl
 obtain ⟨k, hk1, hk, rfl⟩ := hI
 simp only [ref09_FewestKinds.b1, Int.toNat_natCast]
 by_cases hkl : k < c.toNat
 ·
  rw [br_pos (by simp; omega), refKindsAt hM hN h (by omega), bnd_val, show c.toNat - k = (c.toNat - (k + 1)) + 1 by omega]
  simp only [fewF]
  cases hE : (kindsF c ps k c.toNat []).isEmpty with
  | true =>
   simp only [Bool.not_true, br_false, if_true]
   rw [w64_succ (by omega), hrec _ ⟨k + 1, by omega, hkl, rfl⟩ (by simp only [Int.toNat_natCast]; omega), Int.toNat_natCast]
  | false => simp only [Bool.not_false, br_true, Bool.false_eq_true, if_false]
 ·
  have e : k = c.toNat := by omega
  rw [br_neg (by simp; omega), e, Nat.sub_self]
  have hr := refKindsAt (N := N) hM hN h (most := c.toNat) (by omega)
  rw [Int.toNat_of_nonneg (by omega)] at hr
  rw [hr, bnd_val]
  simp only [fewF]
  rw [Int.toNat_of_nonneg (by omega)]
end
end Go.Sh

/-
 The law of kinds.
-/
namespace Go.Sh
open Go.PW
section
variable {N : Nat} {c : Int} {ps : Prs}
theorem Fewest_eq (hM : N ≤ 20000) (hN : 200 < N) (hl : ps.length ≤ 66) :
  plan_FewestKinds N c ps = some (if (netT c ps).2 ≠ 0 then ([], 0, (netT c ps).2) else (kindsF c ps (fewF c ps (c.toNat - 1) 1) c.toNat [], ((fewF c ps (c.toNat - 1) 1 : Nat) : Int), 0)) := by
 unfold plan_FewestKinds
 rw [CheckNet_eq hM hN hl, bnd_val]
 simp only
 by_cases h1 : (netT c ps).2 ≠ 0
 · rw [br_pos (bne_t h1), if_pos h1]
 rw [br_neg (bne_f h1), if_neg h1]
 have h := netOK_of (Classical.not_not.1 h1)
 have hc1 := h.c1
 have hc8 := h.c8
 simp only [jn]
 rw [beside_loop hM hN h _ _ (fun rec t m => rfl)]
 rw [near_loops hN h _ _ (fun a K => plan_FewestKinds.b3 N c (matL fun j => besB ps (j / 8) (j % 8)) a K) (fun a b K => plan_FewestKinds.b4 N c (matL fun j => besB ps (j / 8) (j % 8)) a b K) (fun rec a m => rfl) (fun a K2 rec b m => rfl) (fun a b K3 rec t m => rfl)]
 rw [show (matL fun j => decide (j / 8 < c.toNat) && decide (j % 8 < c.toNat) && nearN c ps (j / 8) (j % 8)) = nearM c ps from rfl]
 have hk1 := kindsAt (N := N) hN h (most := 1) (by omega)
 rw [show ((1 : Nat) : Int) = 1 from rfl] at hk1
 rw [hk1, bnd_val]
 refine (rds_spec (fun s : Int × List Int => ∃ k : Nat, 1 ≤ k ∧ k ≤ c.toNat ∧ s = ((k : Int), kindsF c ps k c.toNat [])) (fun s => c.toNat - s.1.toNat) (fun s => some (kindsF c ps (fewF c ps (c.toNat - s.1.toNat) s.1.toNat) c.toNat [], ((fewF c ps (c.toNat - s.1.toNat) s.1.toNat : Nat) : Int), (0 : Int))) (fun rec s hI hrec => ?_) N (1, _) ⟨1, Nat.le_refl _, by omega, rfl⟩ (by simp; omega)).trans rfl
 obtain ⟨k, hk1, hk, rfl⟩ := hI
 simp only [plan_FewestKinds.b5, Int.toNat_natCast]
 cases hE : (kindsF c ps k c.toNat []).isEmpty with
 | true =>
  have hkl : k < c.toNat := by
   rcases Nat.lt_or_ge k c.toNat with h' | h'
   · exact h'
   · exact absurd (List.isEmpty_iff.1 hE) (kindsF_ne hc1 h' c.toNat [] (by simp))
  rw [br_true, w64_succ (by omega), kindsAt hN h (by omega), bnd_val, hrec _ ⟨k + 1, by omega, hkl, rfl⟩ (by simp only [Int.toNat_natCast]; omega)]
  simp only [Int.toNat_natCast]
  rw [show c.toNat - k = (c.toNat - (k + 1)) + 1 by omega]
  simp only [fewF, hE, if_true]
 | false =>
  rw [br_false]
  have : fewF c ps (c.toNat - k) k = k := by
   cases hn : c.toNat - k with
   | zero => rfl
   | succ n => simp only [fewF, hE, Bool.false_eq_true, if_false]
  rw [this]
theorem isIdentity_eq (x : Int) : plan_isIdentity N x = some (inB x 0 1007) := by unfold plan_isIdentity; rw [within_eq, bnd_val]
theorem IdentityErr_eq (x : Int) : ref09_IdentityErr N x = some (if inB x 0 1007 = true then 0 else 2) := by
 unfold ref09_IdentityErr
 rw [Within_eq, bnd_val]
 cases inB x 0 1007 <;> rfl
theorem IdentitiesErr_eq (hN : 200 < N) {l : List Int} (hl : l.length ≤ 10) : ref09_IdentitiesErr N c ps l = some (listE c 0 1007 l) := by
 unfold ref09_IdentitiesErr listE
 by_cases h : (l.length : Int) = c
 ·
  rw [br_neg (by simpa using h), if_neg (by simpa using h)]
  simp only [jn]
  refine (rds_scan l 0 (fun x => !(inB x 0 1007)) (some 2) (some 0) _ (fun k rec hk => ?_) (fun rec => ?_) (by omega)).trans (by split <;> rfl)
  ·
   simp only [ref09_IdentitiesErr.b1]
   rw [br_pos (by simpa using hk), chk_pos (by omega), Int.toNat_natCast, IdentityErr_eq, bnd_val, w64_succ (by omega)]
   cases inB (l.getD k 0) 0 1007 <;> rfl
  · simp [ref09_IdentitiesErr.b1, br]
 · rw [br_pos (by simpa using h), if_pos h]
def cnB (c : Int) (ps : Prs) (l : List Int) (a b : Nat) : Bool := nearN c ps a b && (l.getD a 0 == l.getD b 0)
theorem RefConfusion_eq (hM : N ≤ 20000) (hN : 200 < N) (h : NetOK c ps) {l : List Int} (hl : (l.length : Int) = c) :
  ref09_FirstConfusion N c ps l = match out (cnB c ps l) c.toNat 0 with | some (a, b) => some ((a : Int), (b : Int), true) | none => some (0, 0, false) := by
 have h1 := h.c1
 have h8 := h.c8
 unfold ref09_FirstConfusion
 simp only [jn]
 refine pair_loop c.toNat (by omega) (cnB c ps l) (fun a b => some ((a : Int), (b : Int), true)) (some (0, 0, false)) _ (fun a K => ref09_FirstConfusion.b2 N c ps l a K) (fun rec a => ?_) (fun K rec a b hab hb => ?_) (fun K rec a ha => ?_) hN
 ·
  simp only [ref09_FirstConfusion.b1, jn]
  rw [show ((c.toNat : Nat) : Int) = c by omega]
 ·
  simp only [ref09_FirstConfusion.b2]
  rw [br_pos (by simp; omega), IsNear_eq hM hN h, bnd_val, chk_pos (fun _ => by omega), chk_pos (fun _ => by omega), w64_succ (by omega)]
  simp only [Int.toNat_natCast]
  unfold cnB
  cases (nearN c ps a b && (l.getD a 0 == l.getD b 0)) <;> rfl
 ·
  simp only [ref09_FirstConfusion.b2]
  rw [br_neg (by simp; omega)]
theorem Confusion_eq (hM : N ≤ 20000) (hN : 200 < N) (hl : ps.length ≤ 66) {l : List Int} (ll : l.length ≤ 10) :
  plan_FirstConfusion N c ps l = if (netT c ps).2 ≠ 0 then some (0, 0, (netT c ps).2) else if listE c 0 1007 l ≠ 0 then some (0, 0, listE c 0 1007 l) else
   match out (cnB c ps l) c.toNat 0 with | some (a, b) => some ((a : Int), (b : Int), 0) | none => some (0, 0, 12) := by
 unfold plan_FirstConfusion
 rw [CheckNet_eq hM hN hl, bnd_val]
 simp only
 by_cases h1 : (netT c ps).2 ≠ 0
 · rw [br_pos (bne_t h1), if_pos h1]
 rw [br_neg (bne_f h1), if_neg h1]
 have h := netOK_of (Classical.not_not.1 h1)
 have hc1 := h.c1
 have hc8 := h.c8
 simp only [jn]
 rw [beside_loop hM hN h _ _ (fun rec t m => rfl)]
 rw [near_loops hN h _ _ (fun a K => plan_FirstConfusion.b3 N c (matL fun j => besB ps (j / 8) (j % 8)) a K) (fun a b K => plan_FirstConfusion.b4 N c (matL fun j => besB ps (j / 8) (j % 8)) a b K) (fun rec a m => rfl) (fun a K2 rec b m => rfl) (fun a b K3 rec t m => rfl)]
 rw [listErr_eq hM hN _ ll (fun x => isIdentity_eq x), bnd_val]
 by_cases h2 : listE c 0 1007 l ≠ 0
 · rw [if_pos h2, br_pos (bne_t h2)]
 have h20 := Classical.not_not.1 h2
 rw [if_neg h2, br_neg (bne_f h2)]
 obtain ⟨n1, n2⟩ := listE_zero h20
 rw [show (matL fun j => decide (j / 8 < c.toNat) && decide (j % 8 < c.toNat) && nearN c ps (j / 8) (j % 8)) = nearM c ps from rfl]
 rw [firstPair_eq hN h _ (fun a b => l.getD a 0 == l.getD b 0) (fun a b hab hb => ?_)]
 ·
  rw [show (fun a b => nearN c ps a b && (l.getD a 0 == l.getD b 0)) = cnB c ps l from rfl]
  cases out (cnB c ps l) c.toNat 0 with
  | none => rfl
  | some p => obtain ⟨a, b⟩ := p; rfl
 ·
  unfold plan_FirstConfusion_1
  rw [chk_pos (by omega), chk_pos (by omega)]
  simp only [Int.toNat_natCast]
theorem kindsF_len {most : Nat} : ∀ (n : Nat) (so : List Int), (kindsF c ps most n so).length ≤ so.length + n
 | 0, so => Nat.le_refl _
 | n + 1, so => by
  simp only [kindsF]
  cases hf : (List.range most).findSome? fun k : Nat => if takenB c ps so (k : Int) = true then none else (fun r : List Int => if r.isEmpty = true then none else some r) (kindsF c ps most n (so ++ [(k : Int)])) with
  | none => simp
  | some r =>
   simp only [Option.getD_some]
   obtain ⟨k, _, hk⟩ := List.exists_of_findSome?_eq_some hf
   split at hk
   · cases hk
   ·
    simp only at hk
    split at hk
    · cases hk
    ·
     cases hk
     have := kindsF_len (most := most) n (so ++ [(k : Int)])
     simp only [List.length_append, List.length_cons, List.length_nil] at this
     omega
theorem law_PlanKinds (hM : N ≤ 20000) (hN : 200 < N) (c : Int) (ps : Prs) (l : List Int) : law09_PlanKinds N c ps l = some true := by
 unfold law09_PlanKinds law09_pairs
 rw [show law09_awake N = some true from rfl, bnd_val, br_neg (by rfl), bnd_val]
 by_cases hp : ((decide ((ps.length : Int) ≤ (30 : Int))) || ((decide ((ps.length : Int) > (64 : Int))) && (decide ((ps.length : Int) ≤ w64 ((64 : Int) + (2 : Int)))))) = true
 ·
  have hl : ps.length ≤ 66 := by
   rw [w64_id (by omega)] at hp
   simp only [Bool.or_eq_true, Bool.and_eq_true, decide_eq_true_eq] at hp; omega
  rw [hp, show (!true) = false from rfl, Bool.false_or]
  by_cases hq : (decide ((l.length : Int) > 10)) = true
  · rw [br_pos hq]
  rw [br_neg (by simpa using hq)]
  have ll : l.length ≤ 10 := by simp only [decide_eq_true_eq] at hq; omega
  have hF := Fewest_eq (c := c) hM hN hl
  have hC := Confusion_eq (c := c) hM hN hl ll
  unfold ref09_CopyNet ref09_NetErr
  rw [chk_pos (by omega), CopyInts_eq N (show l.length ≤ 1000000000 by omega), RefCheckNet_eq hM hN hl]
  by_cases h1 : (netT c ps).2 ≠ 0
  ·
   rw [if_pos h1] at hF hC
   simp only [bnd_val, hF, hC]
   rw [br_pos (bne_t h1)]
   simp
  have h10 := Classical.not_not.1 h1
  have h := netOK_of h10
  have hc1 := h.c1
  have hc8 := h.c8
  rw [if_neg h1] at hF hC
  obtain ⟨CC, hCC⟩ : ∃ CC : Int × Int × Int, CC = (if listE c 0 1007 l ≠ 0 then ((0 : Int), (0 : Int), listE c 0 1007 l) else match out (cnB c ps l) c.toNat 0 with | some (a, b) => ((a : Int), (b : Int), 0) | none => (0, 0, 12)) := ⟨_, rfl⟩
  have hC' : plan_FirstConfusion N c ps l = some CC := by
   rw [hC, hCC]
   split
   · rfl
   ·
    cases out (cnB c ps l) c.toNat 0 with
    | none => rfl
    | some p => rfl
  obtain ⟨x7, x71, x72⟩ := CC
  simp only [bnd_val, hF, hC', h10]
  rw [br_neg (show ((0 : Int) != 0) = false from rfl), RefFewest_eq hM hN h, bnd_val]
  have hlen := kindsF_len (c := c) (ps := ps) (most := fewF c ps (c.toNat - 1) 1) c.toNat []
  simp only [List.length_nil] at hlen
  simp only [bne_self_eq_false, Bool.not_false, grd_true, NetInts_self hM (show (kindsF c ps (fewF c ps (c.toNat - 1) 1) c.toNat []).length < N by omega), bnd_val, Bool.not_true, Bool.or_self, br_false]
  rw [IdentitiesErr_eq hN ll, bnd_val]
  by_cases h2 : listE c 0 1007 l ≠ 0
  ·
   rw [if_pos h2] at hCC
   cases hCC
   rw [br_pos (bne_t h2)]
   simp
  ·
   have h20 := Classical.not_not.1 h2
   obtain ⟨n1, n2⟩ := listE_zero h20
   rw [if_neg h2] at hCC
   rw [br_neg (bne_f h2), RefConfusion_eq hM hN h n1]
   cases ho : out (cnB c ps l) c.toNat 0 with
   | none =>
    rw [ho] at hCC
    cases hCC
    rfl
   | some p =>
    obtain ⟨a, b⟩ := p
    rw [ho] at hCC
    cases hCC
    simp
 · rw [show ((decide ((ps.length : Int) ≤ (30 : Int))) || ((decide ((ps.length : Int) > (64 : Int))) && (decide ((ps.length : Int) ≤ w64 ((64 : Int) + (2 : Int)))))) = false by simpa using hp]; rfl
end
end Go.Sh
