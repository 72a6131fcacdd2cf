/-
 Plain words: loops that count up. For every program.
-/
import Derived.Test.YtklejiafioalnaaPlA
import Derived.Test.YtklejiafioalnaaNsS
import Derived.Laws.Strings
set_option linter.all false
namespace Go.PW
theorem w64_succ {k : Nat} (h : k < 4611686018427387904) : w64 ((k : Int) + 1) = ((k + 1 : Nat) : Int) := by rw [w64_id (by omega)]; rfl

theorem rds_up1 {R : Type} (len : Nat) (b : (Int → Option R) → Int → Option R) (F : Nat → Option R)
  (hstep : ∀ k rec, k < len → rec ((k + 1 : Nat) : Int) = F (k + 1) → b rec (k : Int) = F k) (hend : ∀ rec, b rec (len : Int) = F len)
  {N : Nat} (hN : len < N) : rds b N 0 = F 0 := by
 have h := rds_spec (b := b) (fun x => ∃ k : Nat, k ≤ len ∧ x = k) (fun x => len - x.toNat) (fun x => F x.toNat) (fun rec x hI hrec => ?_) N 0 ⟨0, Nat.zero_le _, rfl⟩ (by simp; omega)
 · simpa using h
 ·
  obtain ⟨k, hk, hx⟩ := hI
  subst hx
  by_cases hkl : k < len
  ·
   rw [hstep k rec hkl ?_]
   · simp
   ·
    have := hrec ((k + 1 : Nat) : Int) ⟨k + 1, hkl, rfl⟩ (by simp only [Int.toNat_natCast]; omega)
    simpa using this
  ·
   have : k = len := by omega
   subst this
   rw [hend rec]; simp
end Go.PW

/-
 Plain words: loops that build a list, that fold, that look for a wrong element. For every program.
-/
namespace Go.PW

end Go.PW

/-
 What the shallow functions of the planning chapter come to: rasters and cells.
-/
namespace Go.Sh
open Go.PW

def inB (n lo hi : Int) : Bool := (decide (lo ≤ n)) && (decide (n ≤ hi))
theorem inB_true {n lo hi : Int} : inB n lo hi = true ↔ lo ≤ n ∧ n ≤ hi := by simp [inB]
theorem within_eq (N : Nat) (n lo hi : Int) : plan_within N n lo hi = some (inB n lo hi) := rfl
theorem Within_eq (N : Nat) (n lo hi : Int) : base_Within N n lo hi = some (inB n lo hi) := rfl
theorem unless_eq (N : Nat) (b : Bool) (e : Int) : plan_unless N b e = some (if b = true then 0 else e) := by cases b <;> rfl
def firstE : List Int → Int
 | [] => 0
 | x :: l => if x ≠ 0 then x else firstE l
theorem getD_of {α : Type} {l : List α} {k : Nat} (h : k < l.length) (d : α) : l.getD k d = l[k] := by simp [List.getD_eq_getElem?_getD, h]
theorem first_eq {N : Nat} (hM : N ≤ 20000) (l : List Int) (h : l.length < N) : plan_first N l = some (firstE l) := by
 unfold plan_first
 simp only [jn]
 refine (rds_up1 l.length _ (fun k => some (firstE (l.drop k))) (fun k rec hk hr => ?_) (fun rec => ?_) h).trans (by simp)
 ·
  simp only [plan_first.b1]
  rw [br_pos (by simpa using hk), chk_pos (by omega), List.drop_eq_getElem_cons hk, firstE, w64_succ (by omega), hr, Int.toNat_natCast, getD_of hk]
  by_cases h0 : l[k] = 0 <;> simp [br, h0]
 · simp [plan_first.b1, br, firstE]

theorem f2a {x : Bool} (hx : x = false) {e : Int} (he : e ≠ 0) (z : Int) : firstE [if x = true then 0 else e, z] = e := by subst hx; simp [firstE, he]
theorem f2b {x : Bool} (hx : x = true) (e z : Int) : firstE [if x = true then 0 else e, z] = z := by
 subst hx
 simp only [firstE, if_true, ne_eq, not_true_eq_false, if_false]
 split
 · rfl
 · rename_i h; exact (Classical.not_not.1 h).symm

abbrev Rows := List (List Int)
end Go.Sh

/-
 Whether a cell sees a point: the same on both sides.
-/
namespace Go.Sh
open Go.PW

def hgt (rows : Rows) (a b : Int) : Int := (rows.getD a.toNat default).getD b.toNat 0
section
variable {rows : Rows} {L : Nat}
end

end Go.Sh

/-
 Plans: their errors, and the levels of their cells. The same on both sides.
-/
namespace Go.Sh
open Go.PW

abbrev CellT := ByteArray × Int × Int × Int × Int × Int × Int
theorem bne_t {x : Int} (h : x ≠ 0) : (x != (0 : Int)) = true := by simpa using h
theorem bne_f {x : Int} (h : ¬ x ≠ 0) : (x != (0 : Int)) = false := by simpa using h
theorem f2 (a : Bool) (e : Int) (he : e ≠ 0) (b : Bool) (g : Int) : firstE [if a = true then 0 else e, if b = true then 0 else g] = if a = false then e else if b = true then 0 else g := by
 cases a with
 | false => rw [f2a rfl he]; rfl
 | true => rw [f2b rfl]; rfl

theorem taken {α : Type} {l : List α} {k : Nat} (h : k < l.length) : l.take k ++ [l[k]] = l.take (k + 1) := List.take_append_getElem h

end Go.Sh

/-
 The levels of the cells of a plan, and the server of a point. The same on both sides.
-/
namespace Go.Sh
open Go.PW

section
variable {rows : Rows} {L : Nat}
end

end Go.Sh

/-
 The law of levels: the level of a cell at a point, and the server of the point.
-/
namespace Go.Sh
open Go.PW

section
variable {rows : Rows} {cells : List CellT} {losses : List (Int × Int)} {N : Nat}
end

section
variable {rows : Rows} {cells : List CellT} {losses : List (Int × Int)} {L : Nat} {N : Nat}
end
end Go.Sh

/-
 The law of holes: all holes, and how many covered points each cell serves; both together are all points.
-/
namespace Go.Sh
open Go.PW

theorem rds_filter {α R : Type} (T : Nat) (p : Nat → Bool) (f : Nat → α) (b : (Int × List α → Option R) → Int × List α → Option R) (K : List α → Option R)
  (hstep : ∀ k acc rec, k < T → acc.length ≤ k → b rec ((k : Int), acc) = if p k = true then rec (((k + 1 : Nat) : Int), acc ++ [f k]) else rec (((k + 1 : Nat) : Int), acc)) (hend : ∀ acc rec, b rec ((T : Int), acc) = K acc)
  {N : Nat} (hN : T < N) : rds b N (0, []) = K (((List.range T).filter p).map f) := by
 refine rds_spec (fun s : Int × List α => ∃ k : Nat, k ≤ T ∧ s = ((k : Int), ((List.range k).filter p).map f)) (fun s => T - s.1.toNat) (fun _ => K (((List.range T).filter p).map f)) (fun rec s hI hrec => ?_) N (0, []) ⟨0, Nat.zero_le _, by simp⟩ (by simp; omega)
 obtain ⟨k, hk, rfl⟩ := hI
 by_cases hkl : k < T
 ·
  rw [hstep k _ rec hkl (by rw [List.length_map]; exact Nat.le_trans (List.length_filter_le _ _) (by simp))]
  have hs : (List.range (k + 1)).filter p = if p k = true then (List.range k).filter p ++ [k] else (List.range k).filter p := by
   rw [List.range_succ, List.filter_append]
   cases hp : p k <;> simp [hp]
  cases hp : p k with
  | true =>
   rw [if_pos rfl]
   refine hrec _ ⟨k + 1, hkl, ?_⟩ (by simp only [Int.toNat_natCast]; omega)
   rw [hs, hp, if_pos rfl, List.map_append]; rfl
  | false =>
   rw [if_neg (by decide)]
   refine hrec _ ⟨k + 1, hkl, ?_⟩ (by simp only [Int.toNat_natCast]; omega)
   rw [hs, hp, if_neg (by decide)]
 ·
  have : k = T := by omega
  subst this
  rw [hend]

section
variable {rows : Rows} {L : Nat}
end

section
variable {rows : Rows} {cells : List CellT} {losses : List (Int × Int)} {L : Nat} {N : Nat}
end
end Go.Sh

/-
 The law of more: with more power of a cell, with a lesser least level, and with a cell more, no further point is a hole.
-/
namespace Go.Sh
open Go.PW

section
variable {rows : Rows} {cells : List CellT} {losses : List (Int × Int)} {L : Nat} {N : Nat}
end


section
variable {rows : Rows} {cells : List CellT} {losses : List (Int × Int)} {L : Nat} {N : Nat}
end


section
variable {rows : Rows} {cells : List CellT} {losses : List (Int × Int)} {L : Nat} {N : Nat}
end
end Go.Sh

/-
 The law of nets: which nets are right, with a number, and which cells are near a cell.
-/
namespace Go.Sh
open Go.PW

abbrev Prs := List (Int × Int)
def lexLt (a b : Int × Int) : Bool := decide (a.1 < b.1) || (decide (a.1 = b.1) && decide (a.2 < b.2))
theorem cmp_eq (N : Nat) (x y : Int) : cmp_Compare_int N x y = some (if x < y then -1 else if y < x then 1 else 0) := by
 unfold cmp_Compare_int cmp_isNaN_int
 simp only [bne_self_eq_false, bnd_val, br_false]
 by_cases h : x < y
 · rw [br_pos (by simpa using h), if_pos h]
 ·
  rw [br_neg (by simpa using h), if_neg h]
  by_cases h2 : y < x
  · rw [br_pos (by simpa using h2), if_pos h2]
  · rw [br_neg (by simpa using h2), if_neg h2]
theorem Compare2_eq {N : Nat} (hN : 20 < N) (a b : Int × Int) : ∃ v, slices_Compare_ii N [a.1, a.2] [b.1, b.2] = some v ∧ decide (v > 0) = lexLt b a := by
 obtain ⟨M, rfl⟩ : ∃ M, N = M + 1 + 1 + 1 := ⟨N - 3, by omega⟩
 unfold slices_Compare_ii
 simp only [jn]
 rw [rds_succ]
 simp only [slices_Compare_ii.b1]
 rw [br_pos (by rfl), chk_pos (by simp), br_neg (by rfl), chk_pos (by simp)]
 simp only [Int.toNat_zero, List.getD_cons_zero, cmp_eq, bnd_val]
 by_cases h1 : a.1 < b.1
 ·
  refine ⟨-1, by rw [if_pos h1]; rfl, ?_⟩
  unfold lexLt; simp; omega
 ·
  rw [if_neg h1]
  by_cases h2 : b.1 < a.1
  ·
   refine ⟨1, by rw [if_pos h2]; rfl, ?_⟩
   unfold lexLt; simp; omega
  ·
   rw [if_neg h2, br_neg (by rfl), w64_id (by omega), rds_succ]
   simp only [slices_Compare_ii.b1]
   rw [br_pos (by rfl), chk_pos (by simp), br_neg (by rfl), chk_pos (by simp)]
   simp only [show ((0 : Int) + 1).toNat = 1 from rfl, List.getD_cons_succ, List.getD_cons_zero, cmp_eq, bnd_val]
   by_cases h3 : a.2 < b.2
   ·
    refine ⟨-1, by rw [if_pos h3]; rfl, ?_⟩
    unfold lexLt; simp; omega
   ·
    rw [if_neg h3]
    by_cases h4 : b.2 < a.2
    ·
     refine ⟨1, by rw [if_pos h4]; rfl, ?_⟩
     unfold lexLt; simp; omega
    ·
     rw [if_neg h4, br_neg (by rfl), w64_id (by omega), rds_succ]
     simp only [slices_Compare_ii.b1]
     refine ⟨0, by rw [br_neg (by rfl), br_neg (by rfl)], ?_⟩
     unfold lexLt; simp; omega
theorem Before2_eq {N : Nat} (hN : 20 < N) (a b : Int × Int) : base_Before N [a.1, a.2] [b.1, b.2] = some (lexLt a b) := by
 obtain ⟨M, rfl⟩ : ∃ M, N = M + 1 + 1 + 1 := ⟨N - 3, by omega⟩
 unfold base_Before
 simp only [jn]
 rw [rds_succ]
 simp only [base_Before.b1]
 rw [br_pos (by rfl), chk_pos (by simp), chk_pos (by simp)]
 simp only [Int.toNat_zero, List.getD_cons_zero]
 by_cases h1 : a.1 = b.1
 ·
  rw [br_neg (by simpa using h1), w64_id (by omega), rds_succ]
  simp only [base_Before.b1]
  rw [br_pos (by rfl), chk_pos (by simp), chk_pos (by simp)]
  simp only [show ((0 : Int) + 1).toNat = 1 from rfl, List.getD_cons_succ, List.getD_cons_zero]
  by_cases h2 : a.2 = b.2
  ·
   rw [br_neg (by simpa using h2), w64_id (by omega), rds_succ]
   simp only [base_Before.b1]
   rw [br_neg (by rfl)]
   unfold lexLt; simp [h1, h2]
  ·
   rw [br_pos (by simpa using h2), chk_pos (by simp), chk_pos (by simp)]
   unfold lexLt; simp [h1]
 ·
  rw [br_pos (by simpa using h1), chk_pos (by simp), chk_pos (by simp)]
  unfold lexLt; simp [h1]

noncomputable def inC (c : Int) (n : Int) : Bool := inB n 0 (w64 (c - 1))
noncomputable def netF (c : Int) (ps : Prs) : Nat → Prs → Int × Int
 | _, [] => (0, 0)
 | k, p :: r => if (inC c p.1 && inC c p.2) = false then ((k : Int), 6) else if (decide (p.1 < p.2) && (decide (k = 0) || lexLt (ps.getD (k - 1) default) p)) = false then ((k : Int), 9) else netF c ps (k + 1) r
noncomputable def netT (c : Int) (ps : Prs) : Int × Int := if inB c 1 8 = false then (0, 2) else if 64 < ps.length then (0, 8) else netF c ps 0 ps
section
variable {N : Nat} {c : Int} {ps : Prs}
theorem CheckNet_eq (hM : N ≤ 20000) (hN : 200 < N) (hl : ps.length ≤ 66) : plan_CheckNet N c ps = some (netT c ps) := by
 unfold plan_CheckNet netT
 rw [within_eq, bnd_val, unless_eq, bnd_val, unless_eq, bnd_val, first_eq hM _ (by simp; omega), bnd_val, f2 _ _ (by decide)]
 cases hc : inB c 1 8 with
 | false => rfl
 | true =>
  simp only [Bool.true_eq_false, if_false]
  by_cases h1 : 64 < ps.length
  · rw [if_neg (by simp; omega), if_pos h1]; rfl
  rw [if_pos (by simp; omega), if_neg h1, br_neg (by rfl)]
  simp only [jn]
  refine (rds_up1 ps.length _ (fun k => some (netF c ps k (ps.drop k))) (fun k rec hk hrec => ?_) (fun rec => ?_) (by omega)).trans (by simp)
  ·
   simp only [plan_CheckNet.b1]
   have hmx : (if (0 : Int) < w64 ((k : Int) - (1 : Int)) then w64 ((k : Int) - (1 : Int)) else (0 : Int)) = ((k - 1 : Nat) : Int) := by
    rw [w64_id (by omega)]; split <;> omega
   rw [hmx]
   have hk0 : ((k : Int) == 0) = decide (k = 0) := by rw [Bool.eq_iff_iff]; simp
   rw [hk0, br_pos (by simpa using hk), chk_pos (by omega), chk_pos (by intro _; omega)]
   simp only [Int.toNat_natCast, getD_of hk]
   obtain ⟨v, hv, hvl⟩ := Compare2_eq (N := N) (by omega) ps[k] (ps.getD (k - 1) default)
   rw [hv]
   have hC : ∀ n, plan_CheckNet_1 N n c ps = some (inC c n) := fun n => by unfold plan_CheckNet_1; rw [within_eq, bnd_val]; rfl
   rw [hC, hC]
   rw [show ∀ (f : Int → Option (Int × Int)), bnd (grd (!decide (k = 0)) 0 (some v)) f = f (if k = 0 then 0 else v) from fun f => by
    by_cases h : k = 0 <;> simp [h]]
   rw [bnd_val, show ∀ (f : Bool → Option (Int × Int)), bnd (grd (inC c ps[k].1) false (some (inC c ps[k].2))) f = f (if inC c ps[k].1 = true then inC c ps[k].2 else false) from fun f => by
    cases inC c ps[k].1 <;> rfl]
   rw [show (inC c ps[k].1 && if inC c ps[k].1 = true then inC c ps[k].2 else false) = (inC c ps[k].1 && inC c ps[k].2) by cases inC c ps[k].1 <;> rfl]
   rw [unless_eq, bnd_val, unless_eq, bnd_val, first_eq hM _ (by simp; omega), bnd_val, f2 _ _ (by decide), w64_succ (by omega), hrec, List.drop_eq_getElem_cons hk, netF]
   rw [show (decide (k = 0) || decide ((if k = 0 then 0 else v) > 0)) = (decide (k = 0) || lexLt (ps.getD (k - 1) default) ps[k]) by
    by_cases h : k = 0
    · simp [h]
    · simp only [h, decide_false, Bool.false_or, if_false]; exact hvl]
   cases inC c ps[k].1 && inC c ps[k].2 with
   | false => rfl
   | true =>
    cases decide (ps[k].1 < ps[k].2) && (decide (k = 0) || lexLt (ps.getD (k - 1) default) ps[k]) <;> rfl
  · simp [plan_CheckNet.b1, br, netF]
theorem RefCheckNet_eq (hM : N ≤ 20000) (hN : 200 < N) (hl : ps.length ≤ 66) : ref09_CheckNet N c ps = some (netT c ps) := by
 unfold ref09_CheckNet netT
 rw [Within_eq, bnd_val]
 cases hc : inB c 1 8 with
 | false => rfl
 | true =>
  rw [show (!true) = false from rfl, br_neg rfl]
  simp only [Bool.true_eq_false, if_false]
  by_cases h1 : 64 < ps.length
  · rw [br_pos (by simp; omega), if_pos h1]
  rw [br_neg (by simp; omega), if_neg h1]
  simp only [jn]
  refine (rds_up1 ps.length _ (fun k => some (netF c ps k (ps.drop k))) (fun k rec hk hrec => ?_) (fun rec => ?_) (by omega)).trans (by simp)
  ·
   simp only [ref09_CheckNet.b1]
   rw [br_pos (by simpa using hk), chk_pos (by omega), chk_pos (by omega)]
   simp only [Int.toNat_natCast, getD_of hk]
   rw [Within_eq, bnd_val, Within_eq, show ∀ (f : Bool → Option (Int × Int)), bnd (grd (inB ps[k].1 0 (w64 (c - 1))) false (some (inB ps[k].2 0 (w64 (c - 1))))) f = f (if inC c ps[k].1 = true then inC c ps[k].2 else false) from fun f => by
    rw [show inB ps[k].1 0 (w64 (c - 1)) = inC c ps[k].1 from rfl, show inB ps[k].2 0 (w64 (c - 1)) = inC c ps[k].2 from rfl]
    cases inC c ps[k].1 <;> rfl]
   rw [show inB ps[k].1 0 (w64 (c - 1)) = inC c ps[k].1 from rfl]
   rw [show ((!inC c ps[k].1) || !(if inC c ps[k].1 = true then inC c ps[k].2 else false)) = !(inC c ps[k].1 && inC c ps[k].2) by cases inC c ps[k].1 <;> simp]
   rw [List.drop_eq_getElem_cons hk, netF]
   cases inC c ps[k].1 && inC c ps[k].2 with
   | false => rfl
   | true =>
    rw [show (!true) = false from rfl, br_neg rfl, if_neg (by decide)]
    rw [chk_pos (by
     intro h
     simp only [Bool.and_eq_true, decide_eq_true_eq] at h
     rw [w64_id (by omega)]; omega), chk_pos (by intro _; omega), w64_succ (by omega), hrec]
    rw [show decide (ps[k].1 ≥ ps[k].2) = !decide (ps[k].1 < ps[k].2) by rw [Bool.eq_iff_iff]; simp]
    have hk0 : decide ((k : Int) > 0) = !decide (k = 0) := by rw [Bool.eq_iff_iff]; simp; omega
    rw [hk0]
    cases decide (ps[k].1 < ps[k].2) with
    | false => rfl
    | true =>
     by_cases h0 : k = 0
     · simp [h0]
     ·
      rw [w64_id (n := (k : Int) - 1) (by omega), show ((k : Int) - 1).toNat = k - 1 by omega, Before2_eq (by omega)]
      simp only [h0, decide_false, Bool.not_false, Bool.not_true, Bool.and_self, grd_true, bnd_val, Bool.false_or, Bool.true_and]
      cases lexLt (ps.getD (k - 1) default) ps[k] <;> rfl
  · simp [ref09_CheckNet.b1, br, netF]
structure NetOK (c : Int) (ps : Prs) : Prop where
 c1 : 1 ≤ c
 c8 : c ≤ 8
 l : ps.length ≤ 64
 p : ∀ p ∈ ps, 0 ≤ p.1 ∧ p.1 < p.2 ∧ p.2 < c
theorem netF_zero (h1 : 1 ≤ c) (h8 : c ≤ 8) : ∀ (l : Prs) (k : Nat), (netF c ps k l).2 = 0 → ∀ p ∈ l, 0 ≤ p.1 ∧ p.1 < p.2 ∧ p.2 < c
 | [], _, _, p, hp => by simp at hp
 | x :: r, k, h, p, hp => by
  simp only [netF] at h
  split at h
  · simp at h
  rename_i h2
  split at h
  · simp at h
  rename_i h3
  rcases List.mem_cons.1 hp with e | hp'
  ·
   subst e
   simp only [inC, Bool.and_eq_false_iff, not_or, Bool.not_eq_false, inB_true, decide_eq_true_eq] at h2 h3
   rw [w64_id (n := c - 1) (by omega)] at h2
   omega
  · exact netF_zero h1 h8 r (k + 1) h p hp'
theorem netOK_of (h : (netT c ps).2 = 0) : NetOK c ps := by
 unfold netT at h
 split at h
 · exact absurd h (by decide)
 rename_i h1
 split at h
 · exact absurd h (by decide)
 rename_i h2
 have h3 := inB_true.1 (by simpa using h1 : inB c 1 8 = true)
 exact ⟨h3.1, h3.2, by omega, netF_zero h3.1 h3.2 ps 0 h⟩

def matL (g : Nat → Bool) : List Bool := (List.range 64).map g
theorem matL_len (g : Nat → Bool) : (matL g).length = 64 := by simp [matL]
theorem matL_at (g : Nat → Bool) {j : Nat} (hj : j < 64) : (matL g).getD j false = g j := by
 rw [getD_of (by rw [matL_len]; exact hj)]; simp [matL]
theorem matL_set (g : Nat → Bool) (i : Nat) (v : Bool) : (matL g).set i v = matL (fun j => if j = i then v else g j) := by
 refine List.ext_getElem (by simp [matL]) fun k h1 h2 => ?_
 rw [List.getElem_set]
 simp only [matL, List.getElem_map, List.getElem_range]
 by_cases h : i = k
 · rw [if_pos h, if_pos h.symm]
 · rw [if_neg h, if_neg (Ne.symm h)]
theorem matL_congr {g g' : Nat → Bool} (h : ∀ j, j < 64 → g j = g' j) : matL g = matL g' := List.map_congr_left fun j hj => h j (List.mem_range.1 hj)
theorem matL_zero : List.replicate 64 false = matL fun _ => false := by decide
def besB (ps : Prs) (a b : Nat) : Bool := ps.any fun p => (decide (p.1 = (a : Int)) && decide (p.2 = (b : Int))) || (decide (p.2 = (a : Int)) && decide (p.1 = (b : Int)))
def nearN (c : Int) (ps : Prs) (a b : Nat) : Bool := decide (a ≠ b) && (besB ps a b || (List.range c.toNat).any fun k => besB ps a k && besB ps k b)
theorem beside_loop {R : Type} (hM : N ≤ 20000) (hN : 200 < N) (h : NetOK c ps) (K : List Bool → Option R) (b : (Int × List Bool → Option R) → Int × List Bool → Option R)
  (hb : ∀ rec t m, b rec (t, m) = br (decide (t < (ps.length : Int))) (
   chk (0 ≤ t ∧ t < (ps.length : Int)) <|
   chk (0 ≤ (ps.getD t.toNat default).1 ∧ (ps.getD t.toNat default).1 < 8) <|
   chk (0 ≤ (ps.getD t.toNat default).2 ∧ (ps.getD t.toNat default).2 < 8) <|
   chk (m.length = 64) <|
   chk (0 ≤ (ps.getD t.toNat default).2 ∧ (ps.getD t.toNat default).2 < 8) <|
   chk (0 ≤ (ps.getD t.toNat default).1 ∧ (ps.getD t.toNat default).1 < 8) <|
   chk ((m.set ((((ps.getD t.toNat default).1).toNat) * 8 + (((ps.getD t.toNat default).2).toNat)) true).length = 64) <|
   rec (w64 (t + (1 : Int)), ((m.set ((((ps.getD t.toNat default).1).toNat) * 8 + (((ps.getD t.toNat default).2).toNat)) true).set ((((ps.getD t.toNat default).2).toNat) * 8 + (((ps.getD t.toNat default).1).toNat)) true))) (
   K m)) : rds b N ((0 : Int), List.replicate 64 false) = K (matL fun j => besB ps (j / 8) (j % 8)) := by
 have hl := h.l
 refine rds_spec (fun s : Int × List Bool => ∃ k : Nat, k ≤ ps.length ∧ s = ((k : Int), matL fun j => besB (ps.take k) (j / 8) (j % 8))) (fun s => ps.length - s.1.toNat) (fun _ => K (matL fun j => besB ps (j / 8) (j % 8))) (fun rec s hI hrec => ?_) N _ ⟨0, Nat.zero_le _, by rw [matL_zero]; rfl⟩ (by simp; omega)
 obtain ⟨k, hk, rfl⟩ := hI
 rw [hb]
 by_cases hkl : k < ps.length
 ·
  have hp := h.p _ (List.getElem_mem hkl)
  have h8 := h.c8
  simp only [Int.toNat_natCast, getD_of hkl]
  rw [br_pos (by simpa using hkl), chk_pos (by omega), chk_pos (by omega), chk_pos (by omega), chk_pos (matL_len _), chk_pos (by omega), chk_pos (by omega), chk_pos (by rw [List.length_set]; exact matL_len _), w64_succ (by omega)]
  refine hrec _ ⟨k + 1, hkl, ?_⟩ (by simp only [Int.toNat_natCast]; omega)
  rw [matL_set, matL_set]
  congr 1
  refine matL_congr fun j hj => ?_
  rw [← taken hkl]
  unfold besB
  rw [List.any_append]
  simp only [List.any_cons, List.any_nil, Bool.or_false]
  have e1 : decide (j = ps[k].2.toNat * 8 + ps[k].1.toNat) = (decide (ps[k].2 = ((j / 8 : Nat) : Int)) && decide (ps[k].1 = ((j % 8 : Nat) : Int))) := by
   rw [Bool.eq_iff_iff]; simp only [Bool.and_eq_true, decide_eq_true_eq]; omega
  have e2 : decide (j = ps[k].1.toNat * 8 + ps[k].2.toNat) = (decide (ps[k].1 = ((j / 8 : Nat) : Int)) && decide (ps[k].2 = ((j % 8 : Nat) : Int))) := by
   rw [Bool.eq_iff_iff]; simp only [Bool.and_eq_true, decide_eq_true_eq]; omega
  rw [← e1, ← e2]
  by_cases g1 : j = ps[k].2.toNat * 8 + ps[k].1.toNat
  · rw [if_pos g1, decide_eq_true g1]; simp
  ·
   rw [if_neg g1, decide_eq_false g1]
   by_cases g2 : j = ps[k].1.toNat * 8 + ps[k].2.toNat
   · rw [if_pos g2, decide_eq_true g2]; simp
   · rw [if_neg g2, decide_eq_false g2]; simp
 ·
  have : k = ps.length := by omega
  subst this
  rw [br_neg (by simp), List.take_length]

theorem near_loops {R : Type} (hN : 200 < N) (h : NetOK c ps) (K : List Bool → Option R) (b2 : (Int × List Bool → Option R) → Int × List Bool → Option R)
  (b3 : Int → (List Bool → Option R) → (Int × List Bool → Option R) → Int × List Bool → Option R) (b4 : Int → Int → (List Bool → Option R) → (Int × List Bool → Option R) → Int × List Bool → Option R)
  (h2 : ∀ rec a m, b2 rec (a, m) = br (decide (a < c)) (rds (b3 a fun m' => rec (w64 (a + 1), m')) N ((0 : Int), m)) (K m))
  (h3 : ∀ a K2 rec b m, b3 a K2 rec (b, m) = br (decide (b < c)) (rds (b4 a b fun m' => rec (w64 (b + 1), m')) N ((0 : Int), m)) (K2 m))
  (h4 : ∀ t47 t52 K3 rec t57 m, b4 t47 t52 K3 rec (t57, m) = br (decide (t57 < c)) (
   chk (0 ≤ t47 ∧ t47 < 8) <|
   chk (0 ≤ t52 ∧ t52 < 8) <|
   chk (m.length = 64) <|
   chk (0 ≤ t47 ∧ t47 < 8) <|
   chk (0 ≤ t52 ∧ t52 < 8) <|
   chk ((matL fun j => besB ps (j / 8) (j % 8)).length = 64) <|
   chk (0 ≤ t47 ∧ t47 < 8) <|
   chk (0 ≤ t57 ∧ t57 < 8) <|
   chk (0 ≤ t57 ∧ t57 < 8) <|
   chk (0 ≤ t52 ∧ t52 < 8) <|
   chk (0 ≤ t47 ∧ t47 < 8) <|
   chk (0 ≤ t52 ∧ t52 < 8) <|
   rec (w64 (t57 + (1 : Int)), (m.set (t47.toNat * 8 + t52.toNat) ((m.getD (t47.toNat * 8 + t52.toNat) false) || ((t47 != t52) && (((matL fun j => besB ps (j / 8) (j % 8)).getD (t47.toNat * 8 + t52.toNat) false) || (((matL fun j => besB ps (j / 8) (j % 8)).getD (t47.toNat * 8 + t57.toNat) false) && ((matL fun j => besB ps (j / 8) (j % 8)).getD (t57.toNat * 8 + t52.toNat) false)))))))) (
   K3 m)) :
  rds b2 N ((0 : Int), List.replicate 64 false) = K (matL fun j => decide (j / 8 < c.toNat) && decide (j % 8 < c.toNat) && nearN c ps (j / 8) (j % 8)) := by
 have h1 := h.c1
 have h8 := h.c8
 refine rds_spec (fun s : Int × List Bool => ∃ a : Nat, a ≤ c.toNat ∧ s = ((a : Int), matL fun j => decide (j / 8 < a) && decide (j % 8 < c.toNat) && nearN c ps (j / 8) (j % 8))) (fun s => c.toNat - s.1.toNat) (fun _ => K (matL fun j => decide (j / 8 < c.toNat) && decide (j % 8 < c.toNat) && nearN c ps (j / 8) (j % 8))) (fun rec s hI hrec => ?_) N _ ⟨0, Nat.zero_le _, by rw [matL_zero]; exact congrArg _ (matL_congr fun j _ => by simp)⟩ (by simp; omega)
 obtain ⟨a, ha, rfl⟩ := hI
 rw [h2]
 by_cases hal : a < c.toNat
 ·
  rw [br_pos (by simp; omega)]
  refine rds_spec (fun s : Int × List Bool => ∃ b : Nat, b ≤ c.toNat ∧ s = ((b : Int), matL fun j => (decide (j / 8 < a) && decide (j % 8 < c.toNat) || decide (j / 8 = a) && decide (j % 8 < b)) && nearN c ps (j / 8) (j % 8))) (fun s => c.toNat - s.1.toNat) (fun _ => K (matL fun j => decide (j / 8 < c.toNat) && decide (j % 8 < c.toNat) && nearN c ps (j / 8) (j % 8))) (fun rec1 s1 hI1 hrec1 => ?_) N _ ⟨0, Nat.zero_le _, by congr 1; exact matL_congr fun j hj => by simp⟩ (by simp; omega)
  obtain ⟨b, hb, rfl⟩ := hI1
  rw [h3]
  by_cases hbl : b < c.toNat
  ·
   rw [br_pos (by simp; omega)]
   have hix : a * 8 + b < 64 := by omega
   have hd : (a * 8 + b) / 8 = a ∧ (a * 8 + b) % 8 = b := by omega
   refine rds_spec (fun s : Int × List Bool => ∃ k : Nat, k ≤ c.toNat ∧ s = ((k : Int), matL fun j => if j = a * 8 + b then (decide (a ≠ b) && ((decide (0 < k) && besB ps a b) || (List.range k).any fun k => besB ps a k && besB ps k b)) else (decide (j / 8 < a) && decide (j % 8 < c.toNat) || decide (j / 8 = a) && decide (j % 8 < b)) && nearN c ps (j / 8) (j % 8))) (fun s => c.toNat - s.1.toNat) (fun _ => K (matL fun j => decide (j / 8 < c.toNat) && decide (j % 8 < c.toNat) && nearN c ps (j / 8) (j % 8))) (fun rec2 s2 hI2 hrec2 => ?_) N _ ⟨0, Nat.zero_le _, by
    congr 1
    refine matL_congr fun j hj => ?_
    by_cases g : j = a * 8 + b
    ·
     subst g
     rw [if_pos rfl, hd.1, hd.2]; simp
    · rw [if_neg g]⟩ (by simp; omega)
   obtain ⟨k, hk, rfl⟩ := hI2
   rw [h4]
   by_cases hkl : k < c.toNat
   ·
    rw [br_pos (by simp; omega), chk_pos (by omega), chk_pos (by omega), chk_pos (matL_len _), chk_pos (by omega), chk_pos (by omega), chk_pos (matL_len _), chk_pos (by omega), chk_pos (by omega), chk_pos (by omega), chk_pos (by omega), chk_pos (by omega), chk_pos (by omega), w64_succ (by omega)]
    refine hrec2 _ ⟨k + 1, hkl, ?_⟩ (by simp only [Int.toNat_natCast]; omega)
    simp only [Int.toNat_natCast]
    rw [matL_at _ hix, matL_at _ hix, matL_at _ (show a * 8 + k < 64 by omega), matL_at _ (show k * 8 + b < 64 by omega), matL_set]
    congr 1
    refine matL_congr fun j hj => ?_
    rw [hd.1, hd.2, show (a * 8 + k) / 8 = a by omega, show (a * 8 + k) % 8 = k by omega, show (k * 8 + b) / 8 = k by omega, show (k * 8 + b) % 8 = b by omega]
    have hne : ((a : Int) != (b : Int)) = decide (a ≠ b) := by rw [Bool.eq_iff_iff]; simp; omega
    by_cases g : j = a * 8 + b
    ·
     rw [if_pos g, if_pos rfl, if_pos g, hne, List.range_succ, List.any_append]
     simp only [List.any_cons, List.any_nil, Bool.or_false, Nat.zero_lt_succ, decide_true, Bool.true_and]
     cases decide (a ≠ b) <;> cases decide (0 < k) <;> cases besB ps a b <;> cases (List.range k).any (fun k => besB ps a k && besB ps k b) <;> simp
    · rw [if_neg g, if_neg g, if_neg g]
   ·
    have : k = c.toNat := by omega
    subst this
    rw [br_neg (by simp; omega), w64_succ (by omega)]
    refine hrec1 _ ⟨b + 1, hbl, ?_⟩ (by simp only [Int.toNat_natCast]; omega)
    congr 1
    refine matL_congr fun j hj => ?_
    by_cases g : j = a * 8 + b
    ·
     subst g
     rw [if_pos rfl, hd.1, hd.2]
     unfold nearN
     rw [show decide (0 < c.toNat) = true by simp; omega]
     simp
    ·
     rw [if_neg g]
     have : (decide (j / 8 = a) && decide (j % 8 < b)) = (decide (j / 8 = a) && decide (j % 8 < b + 1)) := by
      rw [Bool.eq_iff_iff]; simp only [Bool.and_eq_true, decide_eq_true_eq]; omega
     rw [this]
  ·
   have : b = c.toNat := by omega
   subst this
   rw [br_neg (by simp; omega), w64_succ (by omega)]
   refine hrec _ ⟨a + 1, hal, ?_⟩ (by simp only [Int.toNat_natCast]; omega)
   congr 1
   refine matL_congr fun j hj => ?_
   have : (decide (j / 8 < a) && decide (j % 8 < c.toNat) || decide (j / 8 = a) && decide (j % 8 < c.toNat)) = (decide (j / 8 < a + 1) && decide (j % 8 < c.toNat)) := by
    rw [Bool.eq_iff_iff]; simp only [Bool.or_eq_true, Bool.and_eq_true, decide_eq_true_eq]; omega
   rw [this]
 ·
  have : a = c.toNat := by omega
  subst this
  rw [br_neg (by simp; omega)]
theorem bes_min (h : NetOK c ps) (a b : Nat) : (ps.any fun p => (p.1 == (if (b : Int) < (a : Int) then (b : Int) else (a : Int))) && (p.2 == (if (a : Int) < (b : Int) then (b : Int) else (a : Int)))) = besB ps a b := by
 unfold besB
 rw [Bool.eq_iff_iff, List.any_eq_true, List.any_eq_true]
 constructor
 ·
  rintro ⟨p, hp, h1⟩
  refine ⟨p, hp, ?_⟩
  have := h.p p hp
  simp only [Bool.and_eq_true, beq_iff_eq, Bool.or_eq_true, decide_eq_true_eq] at h1 ⊢
  split at h1 <;> split at h1 <;> omega
 ·
  rintro ⟨p, hp, h1⟩
  refine ⟨p, hp, ?_⟩
  have := h.p p hp
  simp only [Bool.and_eq_true, beq_iff_eq, Bool.or_eq_true, decide_eq_true_eq] at h1 ⊢
  split <;> split <;> omega
theorem neighbours_eq (hM : N ≤ 20000) (hN : 200 < N) (h : NetOK c ps) (a b : Nat) : ref09_neighbours N c ps (a : Int) (b : Int) = some (besB ps a b) := by
 have hl := h.l
 unfold ref09_neighbours
 simp only [jn]
 rw [← bes_min h]
 refine (rds_up1 ps.length _ (fun k => some ((ps.drop k).any fun p => (p.1 == (if (b : Int) < (a : Int) then (b : Int) else (a : Int))) && (p.2 == (if (a : Int) < (b : Int) then (b : Int) else (a : Int))))) (fun k rec hk hr => ?_) (fun rec => ?_) (show ps.length < N by omega)).trans (by simp)
 ·
  simp only [ref09_neighbours.b1]
  rw [br_pos (by simpa using hk), chk_pos (by omega), List.drop_eq_getElem_cons hk, List.any_cons, w64_succ (by omega), hr]
  simp only [Int.toNat_natCast, getD_of hk]
  cases ((ps[k].1 == (if (b : Int) < (a : Int) then (b : Int) else (a : Int))) && (ps[k].2 == (if (a : Int) < (b : Int) then (b : Int) else (a : Int)))) <;> rfl
 · simp [ref09_neighbours.b1, br]
theorem IsNear_eq (hM : N ≤ 20000) (hN : 200 < N) (h : NetOK c ps) (a b : Nat) : ref09_IsNear N c ps (a : Int) (b : Int) = some (nearN c ps a b) := by
 have h1 := h.c1
 have h8 := h.c8
 unfold ref09_IsNear nearN
 by_cases hab : a = b
 · rw [br_pos (by simp [hab])]; simp [hab]
 ·
  rw [br_neg (by simp; omega), neighbours_eq hM hN h, bnd_val, decide_eq_true hab, Bool.true_and]
  cases hb : besB ps a b with
  | true => rfl
  | false =>
   rw [br_neg rfl, Bool.false_or]
   simp only [jn]
   refine (rds_up1 c.toNat _ (fun k => some ((List.range' k (c.toNat - k)).any fun k => besB ps a k && besB ps k b)) (fun k rec hk hr => ?_) (fun rec => ?_) (by omega)).trans (by simp [List.range_eq_range'])
   ·
    simp only [ref09_IsNear.b1]
    rw [br_pos (by simp; omega), neighbours_eq hM hN h, bnd_val, neighbours_eq hM hN h, w64_succ (by omega), hr]
    rw [show c.toNat - k = c.toNat - (k + 1) + 1 by omega, List.range'_succ, List.any_cons]
    cases besB ps a k <;> cases besB ps k b <;> rfl
   ·
    simp only [ref09_IsNear.b1]
    rw [br_neg (by simp; omega)]; simp
def nearL (c : Int) (ps : Prs) (cell : Nat) : List Int := ((List.range c.toNat).filter fun k => nearN c ps cell k).map fun k : Nat => (k : Int)
theorem Near_eq (hM : N ≤ 20000) (hN : 200 < N) (hl : ps.length ≤ 66) (cell : Int) : plan_Near N c ps cell = some (if (netT c ps).2 ≠ 0 then ([], (netT c ps).2) else if inC c cell = false then ([], 6) else (nearL c ps cell.toNat, 0)) := by
 unfold plan_Near
 rw [CheckNet_eq hM hN hl, bnd_val]
 simp only
 by_cases h1 : (netT c ps).2 ≠ 0
 · rw [br_pos (bne_t h1), if_pos h1]
 rw [br_neg (bne_f h1), if_neg h1]
 have h := netOK_of (Classical.not_not.1 h1)
 have hc1 := h.c1
 have hc8 := h.c8
 simp only [jn]
 rw [beside_loop hM hN h _ _ (fun rec t m => rfl)]
 rw [near_loops hN h _ _ (fun a K => plan_Near.b3 N c (matL fun j => besB ps (j / 8) (j % 8)) a K) (fun a b K => plan_Near.b4 N c (matL fun j => besB ps (j / 8) (j % 8)) a b K) (fun rec a m => rfl) (fun a K2 rec b m => rfl) (fun a b K3 rec t m => rfl)]
 unfold plan_web_cellErr
 rw [within_eq, bnd_val, unless_eq, bnd_val, bnd_val, show inB cell 0 (w64 (c - 1)) = inC c cell from rfl]
 cases hc : inC c cell with
 | false => rfl
 | true =>
  simp only [if_true, Bool.true_eq_false, if_false]
  rw [br_neg (by rfl)]
  unfold inC at hc
  rw [inB_true, w64_id (by omega)] at hc
  refine (rds_filter c.toNat (fun k => nearN c ps cell.toNat k) (fun k : Nat => (k : Int)) _ (fun b32 => some (b32, (0 : Int))) (fun k acc rec hk ha => ?_) (fun acc rec => ?_) (by omega)).trans rfl
  ·
   simp only [plan_Near.b5]
   rw [br_pos (by simp; omega), chk_pos (by omega), chk_pos (by omega), chk_pos (matL_len _), Int.toNat_natCast, matL_at _ (by omega), show (cell.toNat * 8 + k) / 8 = cell.toNat by omega, show (cell.toNat * 8 + k) % 8 = k by omega, show decide (cell.toNat < c.toNat) = true by simp; omega, show decide (k < c.toNat) = true by simpa using hk, w64_succ (by omega)]
   simp only [Bool.true_and]
   cases nearN c ps cell.toNat k with
   | true => rw [br_pos rfl, chk_pos (by simp; omega), if_pos rfl]
   | false => rfl
  ·
   simp only [plan_Near.b5]
   rw [br_neg (by simp; omega)]
theorem RefNear_eq (hM : N ≤ 20000) (hN : 200 < N) (h : NetOK c ps) (cell : Nat) : ref09_Near N c ps (cell : Int) = some (nearL c ps cell) := by
 have hc1 := h.c1
 have hc8 := h.c8
 unfold ref09_Near
 simp only [jn]
 refine (rds_filter c.toNat (fun k => nearN c ps cell k) (fun k : Nat => (k : Int)) _ (fun b32 => some b32) (fun k acc rec hk ha => ?_) (fun acc rec => ?_) (by omega)).trans rfl
 ·
  simp only [ref09_Near.b1]
  rw [br_pos (by simp; omega), IsNear_eq hM hN h, bnd_val, w64_succ (by omega)]
  cases nearN c ps cell k with
  | true => rw [br_pos rfl, chk_pos (by simp; omega), if_pos rfl]
  | false => rfl
 ·
  simp only [ref09_Near.b1]
  rw [br_neg (by simp; omega)]
theorem NetInts_self (hM : N ≤ 20000) {a : List Int} (h : a.length < N) : base_Ints N a a = some true := by
 unfold base_Ints
 rw [br_neg (by simp)]
 simp only [jn]
 refine (rds_up1 a.length _ (fun _ => some true) (fun k rec hk hr => ?_) (fun rec => ?_) h).trans rfl
 ·
  simp only [base_Ints.b1]
  rw [br_pos (by simpa using hk), chk_pos (by omega), chk_pos (by omega), br_neg (by simp), w64_succ (by omega), hr]
 · simp [base_Ints.b1, br]
theorem nearL_len (h : NetOK c ps) (cell : Nat) : (nearL c ps cell).length ≤ 8 := by
 unfold nearL
 rw [List.length_map]
 refine Nat.le_trans (List.length_filter_le _ _) ?_
 rw [List.length_range]; have := h.c8; omega

theorem law_PlanNets (hM : N ≤ 20000) (hN : 200 < N) (c : Int) (ps : Prs) (cell : Int) : law09_PlanNets N c ps cell = some true := by
 unfold law09_PlanNets law09_pairs
 rw [show law09_awake N = some true from rfl, bnd_val, br_neg (by rfl), bnd_val]
 by_cases hp : ((decide ((ps.length : Int) ≤ (30 : Int))) || ((decide ((ps.length : Int) > (64 : Int))) && (decide ((ps.length : Int) ≤ w64 ((64 : Int) + (2 : Int)))))) = true
 ·
  have hl : ps.length ≤ 66 := by
   rw [w64_id (by omega)] at hp
   simp only [Bool.or_eq_true, Bool.and_eq_true, decide_eq_true_eq] at hp; omega
  rw [hp, show (!true) = false from rfl, br_neg rfl]
  unfold ref09_CopyNet
  rw [chk_pos (by omega)]
  simp only [bnd_val]
  rw [CheckNet_eq hM hN hl, bnd_val]
  try simp only
  rw [Near_eq hM hN hl, bnd_val, RefCheckNet_eq hM hN hl, bnd_val]
  simp only [bne_self_eq_false, Bool.or_self, br_false, jn]
  rw [Within_eq, show inB cell 0 (w64 (c - 1)) = inC c cell from rfl]
  by_cases h1 : (netT c ps).2 ≠ 0
  ·
   rw [if_pos h1, show ((netT c ps).2 == (0 : Int)) = false by simpa using h1, grd_false, bnd_val, Bool.false_and, br_false, br_pos (bne_t h1)]
   simp
  ·
   have h0 := Classical.not_not.1 h1
   have h := netOK_of h0
   have hc1 := h.c1
   have hc8 := h.c8
   rw [if_neg h1, h0]
   rw [show ((0 : Int) == 0) = true from rfl, grd_true, bnd_val, Bool.true_and]
   cases hc : inC c cell with
   | false => rfl
   | true =>
    have hc' := hc
    unfold inC at hc'
    rw [inB_true, w64_id (by omega)] at hc'
    simp only [Bool.not_true, br_false, Bool.true_eq_false, if_false, bne_self_eq_false]
    try rw [show ((0 : Int) == 0) = true from rfl]
    try simp only [grd_true]
    have hr := RefNear_eq (N := N) hM hN h cell.toNat
    rw [Int.toNat_of_nonneg hc'.1] at hr
    try simp only [grd_true]
    rw [hr, bnd_val, NetInts_self hM (by have := nearL_len h cell.toNat; omega), bnd_val]
    rfl
 · rw [show ((decide ((ps.length : Int) ≤ (30 : Int))) || ((decide ((ps.length : Int) > (64 : Int))) && (decide ((ps.length : Int) ≤ w64 ((64 : Int) + (2 : Int)))))) = false by simpa using hp]; rfl
end
end Go.Sh
