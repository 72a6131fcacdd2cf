/-
 Plain words: loops that count up. For every program.
-/
import Derived.Test.YtklejiafioalnaaPlA
import Derived.Test.YtklejiafioalnaaNsS
import Derived.Laws.Strings
set_option linter.all false
namespace Go.PW
theorem w64_succ {k : Nat} (h : k < 4611686018427387904) : w64 ((k : Int) + 1) = ((k + 1 : Nat) : Int) := by rw [w64_id (by omega)]; rfl

theorem rds_up1 {R : Type} (len : Nat) (b : (Int → Option R) → Int → Option R) (F : Nat → Option R)
  (hstep : ∀ k rec, k < len → rec ((k + 1 : Nat) : Int) = F (k + 1) → b rec (k : Int) = F k) (hend : ∀ rec, b rec (len : Int) = F len)
  {N : Nat} (hN : len < N) : rds b N 0 = F 0 := by
 have h := rds_spec (b := b) (fun x => ∃ k : Nat, k ≤ len ∧ x = k) (fun x => len - x.toNat) (fun x => F x.toNat) (fun rec x hI hrec => ?_) N 0 ⟨0, Nat.zero_le _, rfl⟩ (by simp; omega)
 · simpa using h
 ·
  obtain ⟨k, hk, hx⟩ := hI
  subst hx
  by_cases hkl : k < len
  ·
   rw [hstep k rec hkl ?_]
   · simp
   ·
    have := hrec ((k + 1 : Nat) : Int) ⟨k + 1, hkl, rfl⟩ (by simp only [Int.toNat_natCast]; omega)
    simpa using this
  ·
   have : k = len := by omega
   subst this
   rw [hend rec]; simp
end Go.PW

/-
 Plain words: loops that build a list, that fold, that look for a wrong element. For every program.
-/
namespace Go.PW

theorem rds_map {α R : Type} (len : Nat) (f : Nat → α) (b : (Int × List α → Option R) → Int × List α → Option R) (K : List α → Option R)
  (hstep : ∀ k acc rec, k < len → acc.length = k → b rec ((k : Int), acc) = rec (((k + 1 : Nat) : Int), acc ++ [f k])) (hend : ∀ acc rec, acc.length = len → b rec ((len : Int), acc) = K acc)
  {N : Nat} (hN : len < N) : rds b N (0, []) = K ((List.range len).map f) := by
 refine rds_spec (fun s : Int × List α => ∃ k : Nat, k ≤ len ∧ s = ((k : Int), (List.range k).map f)) (fun s => len - s.1.toNat) (fun _ => K ((List.range len).map f)) (fun rec s hI hrec => ?_) N (0, []) ⟨0, Nat.zero_le _, by simp⟩ (by simp; omega)
 obtain ⟨k, hk, rfl⟩ := hI
 by_cases hkl : k < len
 ·
  rw [hstep k _ rec hkl (by simp)]
  refine hrec _ ⟨k + 1, hkl, ?_⟩ (by simp only [Int.toNat_natCast]; omega)
  rw [List.range_succ, List.map_append]; rfl
 ·
  have : k = len := by omega
  subst this
  exact hend _ rec (by simp)
end Go.PW

/-
 What the shallow functions of the planning chapter come to: rasters and cells.
-/
namespace Go.Sh
open Go.PW

def inB (n lo hi : Int) : Bool := (decide (lo ≤ n)) && (decide (n ≤ hi))
theorem inB_true {n lo hi : Int} : inB n lo hi = true ↔ lo ≤ n ∧ n ≤ hi := by simp [inB]
theorem within_eq (N : Nat) (n lo hi : Int) : plan_within N n lo hi = some (inB n lo hi) := rfl
theorem Within_eq (N : Nat) (n lo hi : Int) : base_Within N n lo hi = some (inB n lo hi) := rfl
theorem unless_eq (N : Nat) (b : Bool) (e : Int) : plan_unless N b e = some (if b = true then 0 else e) := by cases b <;> rfl
def firstE : List Int → Int
 | [] => 0
 | x :: l => if x ≠ 0 then x else firstE l
theorem getD_of {α : Type} {l : List α} {k : Nat} (h : k < l.length) (d : α) : l.getD k d = l[k] := by simp [List.getD_eq_getElem?_getD, h]
theorem first_eq {N : Nat} (hM : N ≤ 20000) (l : List Int) (h : l.length < N) : plan_first N l = some (firstE l) := by
 unfold plan_first
 simp only [jn]
 refine (rds_up1 l.length _ (fun k => some (firstE (l.drop k))) (fun k rec hk hr => ?_) (fun rec => ?_) h).trans (by simp)
 ·
  simp only [plan_first.b1]
  rw [br_pos (by simpa using hk), chk_pos (by omega), List.drop_eq_getElem_cons hk, firstE, w64_succ (by omega), hr, Int.toNat_natCast, getD_of hk]
  by_cases h0 : l[k] = 0 <;> simp [br, h0]
 · simp [plan_first.b1, br, firstE]

theorem f2a {x : Bool} (hx : x = false) {e : Int} (he : e ≠ 0) (z : Int) : firstE [if x = true then 0 else e, z] = e := by subst hx; simp [firstE, he]
theorem f2b {x : Bool} (hx : x = true) (e z : Int) : firstE [if x = true then 0 else e, z] = z := by
 subst hx
 simp only [firstE, if_true, ne_eq, not_true_eq_false, if_false]
 split
 · rfl
 · rename_i h; exact (Classical.not_not.1 h).symm

def idxF {α : Type} (p : α → Bool) : Nat → List α → Int
 | _, [] => -1
 | k, x :: l => if p x = true then (k : Int) else idxF p (k + 1) l
theorem IndexFunc_eq {N : Nat} (hM : N ≤ 20000) {f : Int → Option Bool} {p : Int → Bool} (hf : ∀ x, f x = some (p x)) (l : List Int) (h : l.length < N) : slices_IndexFunc_ii N l f = some (idxF p 0 l) := by
 unfold slices_IndexFunc_ii
 simp only [jn]
 refine (rds_up1 l.length _ (fun k => some (idxF p k (l.drop k))) (fun k rec hk hr => ?_) (fun rec => ?_) h).trans (by simp)
 ·
  simp only [slices_IndexFunc_ii.b1]
  rw [br_pos (by simpa using hk), chk_pos (by omega), List.drop_eq_getElem_cons hk, idxF, w64_succ (by omega), hr, Int.toNat_natCast, getD_of hk, hf, bnd_val]
  cases p l[k] <;> simp [br]
 · simp [slices_IndexFunc_ii.b1, br, idxF]

def chBad (f : Bool) (c : Int) : Bool :=
 ((!(((decide (c ≥ (97 : Int))) && (decide (c ≤ (122 : Int)))) || ((decide (c ≥ (65 : Int))) && (decide (c ≤ (90 : Int)))))) && (f || ((c != (45 : Int)) && ((decide (c < (48 : Int))) || (decide (c > (57 : Int)))))))
def nameL : Bool → List Int → Bool
 | _, [] => true
 | f, c :: l => !(chBad f c) && nameL false l
def nameOK (s : ByteArray) : Bool := decide (1 ≤ s.size ∧ s.size ≤ 12) && nameL true (bytesL s)
theorem noText (s : ByteArray) : (s.toList == (⟨#[]⟩ : ByteArray).toList) = decide (s.size = 0) := by
 rw [ByteArray.toList_eq, ByteArray.toList_eq]
 have : s.size = s.data.toList.length := by simp
 rw [this]
 cases s.data.toList <;> simp
theorem isName_eq {N : Nat} (hM : N ≤ 20000) (s : ByteArray) (h : s.size < N) : plan_isName N s = some (nameOK s) := by
 unfold plan_isName
 simp only [jn]
 have hl := bytesL_length s
 refine (rds_up1 (bytesL s).length _ (fun k => some (nameL (decide (k = 0)) ((bytesL s).drop k) && decide (1 ≤ s.size ∧ s.size ≤ 12))) (fun k rec hk hr => ?_) (fun rec => ?_) (by omega)).trans ?_
 ·
  simp only [plan_isName.b1]
  rw [br_pos (by simpa using hk), chk_pos (by omega), List.drop_eq_getElem_cons hk, nameL, w64_succ (by omega), hr]
  simp only [Int.toNat_natCast, getD_of hk]
  have hc : (((!(((decide (((bytesL s)[k]) ≥ (97 : Int))) && (decide (((bytesL s)[k]) ≤ (122 : Int)))) || ((decide (((bytesL s)[k]) ≥ (65 : Int))) && (decide (((bytesL s)[k]) ≤ (90 : Int)))))) && (((k : Int) == (0 : Int)) || ((((bytesL s)[k]) != (45 : Int)) && ((decide (((bytesL s)[k]) < (48 : Int))) || (decide (((bytesL s)[k]) > (57 : Int)))))))) = chBad (decide (k = 0)) (bytesL s)[k] := by
   unfold chBad
   have : ((k : Int) == 0) = decide (k = 0) := by rw [Bool.eq_iff_iff]; simp
   rw [this]
  rw [hc]
  cases chBad (decide (k = 0)) (bytesL s)[k]
  · simp [br]
  · simp [br]
 ·
  simp only [plan_isName.b1, noText]
  rw [br_neg (by simp)]
  simp only [List.drop_length, nameL, Bool.true_and, Option.some.injEq]
  rw [Bool.eq_iff_iff]
  simp only [Bool.and_eq_true, Bool.not_eq_true', decide_eq_false_iff_not, decide_eq_true_eq]
  omega
 · rw [nameOK, Bool.and_comm]; rfl
theorem IsName_eq {N : Nat} (hM : N ≤ 20000) (h12 : 12 < N) (s : ByteArray) : base_IsName N s = some (nameOK s) := by
 unfold base_IsName nameOK
 by_cases h1 : 1 ≤ s.size ∧ s.size ≤ 12
 ·
  rw [br_neg (by simp; omega)]
  simp only [jn]
  have hl := bytesL_length s
  refine (rds_up1 s.size _ (fun k => some (nameL (decide (k = 0)) ((bytesL s).drop k))) (fun k rec hk hr => ?_) (fun rec => ?_) (by omega)).trans (by simp [h1])
  ·
   have hk' : k < (bytesL s).length := by omega
   simp only [base_IsName.b1]
   rw [br_pos (by simpa using hk), chk_pos (by omega), List.drop_eq_getElem_cons hk', nameL, w64_succ (by omega), hr]
   have hb : ((s.data.getD k 0).toNat : Int) = (bytesL s)[k] := by rw [← bytesL_getD s hk, getD_of hk']
   simp only [Int.toNat_natCast, hb]
   have hc : (((!(((decide (((bytesL s)[k]) ≥ (97 : Int))) && (decide (((bytesL s)[k]) ≤ (122 : Int)))) || ((decide (((bytesL s)[k]) ≥ (65 : Int))) && (decide (((bytesL s)[k]) ≤ (90 : Int)))))) && (((k : Int) == (0 : Int)) || ((((bytesL s)[k]) != (45 : Int)) && ((decide (((bytesL s)[k]) < (48 : Int))) || (decide (((bytesL s)[k]) > (57 : Int)))))))) = chBad (decide (k = 0)) (bytesL s)[k] := by
    unfold chBad
    have : ((k : Int) == 0) = decide (k = 0) := by rw [Bool.eq_iff_iff]; simp
    rw [this]
   rw [hc]
   cases chBad (decide (k = 0)) (bytesL s)[k]
   · simp [br]
   · simp [br]
  ·
   simp only [base_IsName.b1]
   rw [br_neg (by simp), ← hl]
   simp [nameL]
 ·
  rw [br_pos (by simp; omega)]
  simp [h1]

abbrev Rows := List (List Int)
def badH (n : Int) : Bool := !(inB n 0 5000)
def rowR (L0 k : Nat) (row : List Int) : Option (Int × Int × Int) :=
 if row.length = 0 ∨ row.length ≠ L0 then some (k, 0, 10) else if 12 < row.length then some (k, 0, 8) else if 0 ≤ idxF badH 0 row then some (k, idxF badH 0 row, 2) else none
def rowsR (L0 : Nat) : Nat → Rows → Int × Int × Int
 | _, [] => (0, 0, 0)
 | k, row :: rest => match rowR L0 k row with
  | some e => e
  | none => rowsR L0 (k + 1) rest
def rasT (rows : Rows) : Int × Int × Int :=
 if rows.length = 0 then (0, 0, 10) else if 12 < rows.length then (0, 0, 8) else rowsR (rows.getD 0 default).length 0 rows
theorem CheckRaster_eq {N : Nat} (hM : N ≤ 20000) (h : 20 < N) {rows : Rows} (hl : rows.length < N) (hr : ∀ row ∈ rows, row.length < N) : plan_CheckRaster N rows = some (rasT rows) := by
 unfold plan_CheckRaster rasT
 simp only [unless_eq, bnd_val]
 rw [first_eq hM _ (by simp; omega), bnd_val]
 by_cases h0 : rows.length = 0
 · rw [if_pos h0]; simp [firstE, h0, br]
 rw [if_neg h0]
 have h0' : rows ≠ [] := by intro e; subst e; exact h0 rfl
 by_cases h1 : 12 < rows.length
 · rw [if_pos h1]; simp [firstE, br, h0', show (0 : Nat) < rows.length by omega, show ¬ (rows.length : Int) ≤ 12 by omega]
 rw [if_neg h1]
 have e : firstE [if decide ((rows.length : Int) > 0) = true then 0 else 10, if decide ((rows.length : Int) ≤ 12) = true then 0 else 8] = 0 := by
  simp [firstE, h0', show (0 : Nat) < rows.length by omega, show (rows.length : Int) ≤ 12 by omega]
 rw [e, br_neg (by rfl)]
 simp only [jn]
 refine (rds_up1 rows.length _ (fun k => some (rowsR (rows.getD 0 default).length k (rows.drop k))) (fun k rec hk hrec => ?_) (fun rec => ?_) hl).trans (by simp)
 ·
  simp only [plan_CheckRaster.b1]
  rw [br_pos (by simpa using hk), chk_pos (by omega), chk_pos (by intro _; omega), List.drop_eq_getElem_cons hk, w64_succ (by omega), hrec]
  simp only [Int.toNat_natCast, getD_of hk, unless_eq, bnd_val]
  rw [first_eq hM _ (by simp; omega), bnd_val, IndexFunc_eq hM (f := fun y0 => plan_CheckRaster_1 N y0) (p := badH) (fun x => rfl) _ (hr _ (List.getElem_mem hk)), bnd_val]
  generalize (rows.getD 0 default).length = L0
  generalize rows[k] = row
  simp only [rowsR, rowR]
  by_cases h2 : row.length = 0 ∨ row.length ≠ L0
  ·
   have e2 : (decide ((row.length : Int) > 0) && ((row.length : Int) == (L0 : Int))) = false := by
    rw [Bool.eq_false_iff]; intro hc
    simp only [Bool.and_eq_true, decide_eq_true_eq, beq_iff_eq] at hc
    omega
   rw [if_pos h2, f2a e2 (by decide), br_pos (by rfl)]
  ·
   rw [if_neg h2]
   have e2 : (decide ((row.length : Int) > 0) && ((row.length : Int) == (L0 : Int))) = true := by
    simp only [Bool.and_eq_true, decide_eq_true_eq, beq_iff_eq]
    omega
   rw [f2b e2]
   by_cases h3 : 12 < row.length
   · rw [if_pos h3, show decide ((row.length : Int) ≤ 12) = false by simp; omega, br_pos (by rfl)]; rfl
   ·
    rw [if_neg h3]
    have e3 : (if decide ((row.length : Int) ≤ 12) = true then (0 : Int) else 8) = 0 := by rw [if_pos (by simp; omega)]
    rw [e3, br_neg (by rfl)]
    by_cases h4 : 0 ≤ idxF badH 0 row
    · rw [if_pos h4, br_pos (by simpa using h4)]
    · rw [if_neg h4, br_neg (by simpa using h4)]
 · simp [plan_CheckRaster.b1, br, rowsR]
theorem RefRaster_eq {N : Nat} (hM : N ≤ 20000) (h : 20 < N) (rows : Rows) : ref09_CheckRaster N rows = some (rasT rows) := by
 unfold ref09_CheckRaster rasT
 by_cases h0 : rows.length = 0
 · rw [if_pos h0, br_pos (by simpa using h0)]
 rw [if_neg h0, br_neg (by simpa using h0)]
 by_cases h1 : 12 < rows.length
 · rw [if_pos h1, br_pos (by simp; omega)]
 rw [if_neg h1, br_neg (by simp; omega)]
 simp only [jn]
 refine (rds_up1 rows.length _ (fun k => some (rowsR (rows.getD 0 default).length k (rows.drop k))) (fun k rec hk hrec => ?_) (fun rec => ?_) (show rows.length < N by omega)).trans (by simp)
 ·
  simp only [ref09_CheckRaster.b1, jn]
  rw [br_pos (by simpa using hk), chk_pos (by omega), chk_pos (by intro _; omega), chk_pos (by intro _; omega), List.drop_eq_getElem_cons hk, w64_succ (by omega)]
  simp only [Int.toNat_natCast, getD_of hk, rowsR, rowR]
  by_cases h2 : rows[k].length = 0 ∨ rows[k].length ≠ (rows.getD 0 default).length
  ·
   rw [if_pos h2, br_pos (by
    simp only [Bool.or_eq_true, beq_iff_eq, bne_iff_ne]
    omega)]
  ·
   rw [if_neg h2, br_neg (by
    rw [Bool.or_eq_false_iff]
    simp only [beq_eq_false_iff_ne, bne_eq_false_iff_eq]
    omega), chk_pos (by omega)]
   by_cases h3 : 12 < rows[k].length
   · rw [if_pos h3, br_pos (by simp; omega)]
   ·
    rw [if_neg h3, br_neg (by simp; omega)]
    refine (rds_up1 rows[k].length _ (fun j => if 0 ≤ idxF badH j (rows[k].drop j) then some ((k : Int), idxF badH j (rows[k].drop j), (2 : Int)) else some (rowsR (rows.getD 0 default).length (k + 1) (rows.drop (k + 1)))) (fun j rec1 hj hrec1 => ?_) (fun rec1 => ?_) (show rows[k].length < N by omega)).trans ?_
    ·
     simp only [ref09_CheckRaster.b2]
     rw [chk_pos (by omega)]
     simp only [Int.toNat_natCast, getD_of hk]
     rw [br_pos (by simpa using hj), chk_pos (by omega), chk_pos (by omega), List.drop_eq_getElem_cons hj, idxF, w64_succ (by omega), hrec1]
     simp only [getD_of hj, Within_eq, bnd_val]
     rw [show badH rows[k][j] = !(inB rows[k][j] 0 5000) from rfl]
     cases inB rows[k][j] 0 5000 <;> simp [br]
    ·
     simp only [ref09_CheckRaster.b2]
     rw [chk_pos (by omega)]
     simp only [Int.toNat_natCast, getD_of hk]
     rw [br_neg (by simp), hrec]
     simp [idxF]
    ·
     simp only [List.drop_zero]
     split <;> rfl
 · simp [ref09_CheckRaster.b1, br, rowsR]

theorem CopyInts_eq (N : Nat) {l : List Int} (h : l.length ≤ 1000000000) : base_CopyInts N l = some l := by
 unfold base_CopyInts
 rw [chk_pos (by simpa using h)]; rfl
theorem CopyLists_eq {N : Nat} (hM : N ≤ 20000) {rows : Rows} (hl : rows.length < N) (hr : ∀ row ∈ rows, row.length ≤ 1000000000) : base_CopyLists N rows = some rows := by
 unfold base_CopyLists
 simp only [jn]
 refine (rds_map rows.length (fun k => rows.getD k default) _ (fun l => some l) (fun k acc rec hk ha => ?_) (fun acc rec ha => ?_) hl).trans ?_
 ·
  simp only [base_CopyLists.b1]
  rw [br_pos (by simpa using hk), chk_pos (by omega), Int.toNat_natCast, getD_of hk, CopyInts_eq N (hr _ (List.getElem_mem hk)), bnd_val, chk_pos (by simp; omega), w64_succ (by omega)]
 · simp [base_CopyLists.b1, br]
 ·
  congr 1
  refine List.ext_getElem (by simp) fun k h1 h2 => ?_
  simp only [List.getElem_map, List.getElem_range, getD_of h2]
theorem CopyRaster_eq {N : Nat} (hM : N ≤ 20000) {rows : Rows} (hl : rows.length < N) (hr : ∀ row ∈ rows, row.length ≤ 1000000000) : ref09_CopyRaster N rows = some rows := by
 unfold ref09_CopyRaster
 rw [CopyLists_eq hM hl hr]; rfl

def ownE (name : ByteArray) (id : Int) : Int := if nameOK name = false then 4 else if inB id 0 1007 = false then 2 else 0
noncomputable def pointE (rows : Rows) (a b : Int) : Int := if (inB a 0 (w64 ((rows.length : Int) - 1)) && inB b 0 (w64 (((rows.getD 0 default).length : Int) - 1))) = true then 0 else 6
def numE (m p t : Int) : Int := if ((inB m 1 200 && inB p (-2000) 1000) && inB t 0 11) = true then 0 else 2
noncomputable def cellE (rows : Rows) (name : ByteArray) (id a b m p t : Int) : Int := firstE [(rasT rows).2.2, ownE name id, pointE rows a b, numE m p t]
theorem ownErr_eq {N : Nat} (hM : N ≤ 20000) (h : 20 < N) (name : ByteArray) (hn : name.size < N) (id a b m p t : Int) : plan_ownErr N name id a b m p t = some (ownE name id) := by
 unfold plan_ownErr plan_isIdentity
 simp only [isName_eq hM name hn, within_eq, unless_eq, bnd_val]
 rw [first_eq hM _ (by simp; omega), bnd_val]
 unfold ownE
 cases nameOK name <;> cases inB id 0 1007 <;> rfl
theorem ItselfErr_eq {N : Nat} (hM : N ≤ 20000) (h : 20 < N) (name : ByteArray) (id a b m p t : Int) : ref09_ItselfErr N name id a b m p t = some (ownE name id) := by
 unfold ref09_ItselfErr ref09_IdentityErr ownE
 simp only [IsName_eq hM (by omega : 12 < N) name, Within_eq, bnd_val]
 cases nameOK name <;> cases inB id 0 1007 <;> rfl
theorem point_chk {rows : Rows} (h : rows.length ≤ 1000000000) {a : Int} (hx : inB a 0 (w64 ((rows.length : Int) - 1)) = true) : 0 ≤ (0 : Int) ∧ (0 : Int) < (rows.length : Int) := by
 rw [w64_id (by omega)] at hx
 have := inB_true.1 hx
 omega
theorem pointErr_eq {N : Nat} {rows : Rows} (h : rows.length ≤ 1000000000) (a b : Int) : plan_pointErr N rows a b = some (pointE rows a b) := by
 unfold plan_pointErr pointE
 simp only [within_eq, bnd_val, unless_eq]
 rw [chk_pos (point_chk h)]
 cases inB a 0 (w64 ((rows.length : Int) - 1)) <;> cases inB b 0 (w64 (((rows.getD 0 default).length : Int) - 1)) <;> rfl
theorem PointErr_eq {N : Nat} {rows : Rows} (h : rows.length ≤ 1000000000) (a b : Int) : ref09_PointErr N rows a b = some (pointE rows a b) := by
 unfold ref09_PointErr pointE
 simp only [Within_eq, bnd_val]
 rw [chk_pos (point_chk h)]
 cases inB a 0 (w64 ((rows.length : Int) - 1)) <;> cases inB b 0 (w64 (((rows.getD 0 default).length : Int) - 1)) <;> rfl
theorem numbersErr_eq {N : Nat} (name : ByteArray) (id a b m p t : Int) : plan_numbersErr N name id a b m p t = some (numE m p t) := by
 unfold plan_numbersErr plan_isLevel numE
 simp only [within_eq, bnd_val, unless_eq]
 cases inB m 1 200 <;> cases inB p (-2000) 1000 <;> cases inB t 0 11 <;> rfl
theorem NumbersErr_eq {N : Nat} (name : ByteArray) (id a b m p t : Int) : ref09_NumbersErr N name id a b m p t = some (numE m p t) := by
 unfold ref09_NumbersErr ref09_isTilt numE
 simp only [Within_eq, bnd_val]
 cases inB m 1 200 <;> cases inB p (-2000) 1000 <;> cases inB t 0 11 <;> rfl
theorem CheckCell_eq {N : Nat} (hM : N ≤ 20000) (h : 20 < N) {rows : Rows} (hl : rows.length < N) (hr : ∀ row ∈ rows, row.length < N) (name : ByteArray) (hn : name.size < N) (id a b m p t : Int) :
  plan_CheckCell N rows name id a b m p t = some (cellE rows name id a b m p t) := by
 unfold plan_CheckCell plan_rasterErr
 rw [CheckRaster_eq hM h hl hr, bnd_val, bnd_val, ownErr_eq hM h name hn, bnd_val, pointErr_eq (by omega), bnd_val, numbersErr_eq, bnd_val, first_eq hM _ (by simp; omega)]
 rfl
theorem CellErr_eq {N : Nat} (hM : N ≤ 20000) (h : 20 < N) {rows : Rows} (hl : rows.length ≤ 1000000000) (name : ByteArray) (id a b m p t : Int) :
  ref09_CellErr N rows name id a b m p t = some (cellE rows name id a b m p t) := by
 unfold ref09_CellErr ref09_RasterErr cellE
 rw [RefRaster_eq hM h, bnd_val, bnd_val, ItselfErr_eq hM h, bnd_val, PointErr_eq hl, bnd_val, NumbersErr_eq, bnd_val]
 simp only [firstE]
 by_cases h1 : (rasT rows).2.2 = 0
 ·
  rw [h1, br_neg (by rfl), if_neg (by simp)]
  by_cases h2 : ownE name id = 0
  ·
   rw [h2, br_neg (by rfl), if_neg (by simp)]
   by_cases h3 : pointE rows a b = 0
   ·
    rw [h3, br_neg (by rfl), if_neg (by simp)]
    by_cases h4 : numE m p t = 0
    · rw [h4]; rfl
    · rw [if_pos h4]
   · rw [br_pos (by simpa using h3), if_pos h3]
  · rw [br_pos (by simpa using h2), if_pos h2]
 · rw [br_pos (by simpa using h1), if_pos h1]

def badL (n : Nat) : Bool := ((decide ((n : Int) > 5)) && (decide ((n : Int) ≤ 12))) || (decide ((n : Int) > 14))
theorem badL_le {n : Nat} (h : badL n = false) : n ≤ 14 := by
 simp only [badL, Bool.or_eq_false_iff, decide_eq_false_iff_not] at h
 omega
theorem raster_eq {N : Nat} (hM : N ≤ 20000) (h : 20 < N) (rows : Rows) : law09_raster N rows = some (!badL rows.length && rows.all fun r => !badL r.length) := by
 unfold law09_raster
 rw [show (((decide ((rows.length : Int) > 5)) && (decide ((rows.length : Int) ≤ 12))) || (decide ((rows.length : Int) > 14))) = badL rows.length from rfl]
 cases hb : badL rows.length with
 | true => rfl
 | false =>
  rw [br_neg rfl]
  have hl := badL_le hb
  simp only [jn]
  refine (rds_up1 rows.length _ (fun k => some ((rows.drop k).all fun r => !badL r.length)) (fun k rec hk hr => ?_) (fun rec => ?_) (show rows.length < N by omega)).trans (by simp)
  ·
   simp only [law09_raster.b1]
   rw [br_pos (by simpa using hk), chk_pos (by omega), chk_pos (by intro _; omega), chk_pos (by intro _; omega), List.drop_eq_getElem_cons hk, w64_succ (by omega), hr]
   simp only [Int.toNat_natCast, getD_of hk, List.all_cons]
   rw [show (((decide ((rows[k].length : Int) > 5)) && (decide ((rows[k].length : Int) ≤ 12))) || (decide ((rows[k].length : Int) > 14))) = badL rows[k].length from rfl]
   cases badL rows[k].length <;> simp [br]
  · simp [law09_raster.b1, br]
theorem law_PlanRasters {N : Nat} (hM : N ≤ 20000) (h : 20 < N) (rows : Rows) (name : ByteArray) (id a b m p t : Int) : law09_PlanRasters N rows name id a b m p t = some true := by
 unfold law09_PlanRasters
 rw [show law09_awake N = some true from rfl, bnd_val, br_neg (by rfl), raster_eq hM h, bnd_val]
 by_cases hc : ((!(!badL rows.length && rows.all fun r => !badL r.length)) || decide ((name.size : Int) > 20)) = true
 · rw [br_pos hc]
 ·
  have hc := by simpa using hc
  rw [br_neg (by simpa using hc)]
  obtain ⟨⟨h1, h2⟩, h3⟩ := hc
  have hl := badL_le h1
  have hr : ∀ row ∈ rows, row.length ≤ 14 := fun row hrow => badL_le (h2 row hrow)
  rw [CopyRaster_eq hM (by omega) (fun row hrow => by have := hr row hrow; omega)]
  simp only [bnd_val]
  rw [CheckRaster_eq hM h (by omega) (fun row hrow => by have := hr row hrow; omega), CheckCell_eq hM h (by omega) (fun row hrow => by have := hr row hrow; omega) name (by omega)]
  rw [RefRaster_eq hM h, CellErr_eq hM h (by omega)]
  obtain ⟨x, y, z⟩ := rasT rows
  simp
end Go.Sh
