/-
 Plain words: loops that count up. For every program.
-/
import Derived.Test.YtklejiafioalnaaPlA
import Derived.Test.YtklejiafioalnaaNsS
import Derived.Laws.Strings
set_option linter.all false
namespace Go.PW
theorem w64_succ {k : Nat} (h : k < 4611686018427387904) : w64 ((k : Int) + 1) = ((k + 1 : Nat) : Int) := by rw [w64_id (by omega)]; rfl

theorem rds_up1 {R : Type} (len : Nat) (b : (Int → Option R) → Int → Option R) (F : Nat → Option R)
  (hstep : ∀ k rec, k < len → rec ((k + 1 : Nat) : Int) = F (k + 1) → b rec (k : Int) = F k) (hend : ∀ rec, b rec (len : Int) = F len)
  {N : Nat} (hN : len < N) : rds b N 0 = F 0 := by
 have h := rds_spec (b := b) (fun x => ∃ k : Nat, k ≤ len ∧ x = k) (fun x => len - x.toNat) (fun x => F x.toNat) (fun rec x hI hrec => ?_) N 0 ⟨0, Nat.zero_le _, rfl⟩ (by simp; omega)
 · simpa using h
 ·
  obtain ⟨k, hk, hx⟩ := hI
  subst hx
  by_cases hkl : k < len
  ·
   rw [hstep k rec hkl ?_]
   · simp
   ·
    have := hrec ((k + 1 : Nat) : Int) ⟨k + 1, hkl, rfl⟩ (by simp only [Int.toNat_natCast]; omega)
    simpa using this
  ·
   have : k = len := by omega
   subst this
   rw [hend rec]; simp
end Go.PW

/-
 Plain words: loops that build a list, that fold, that look for a wrong element. For every program.
-/
namespace Go.PW

theorem rds_map {α R : Type} (len : Nat) (f : Nat → α) (b : (Int × List α → Option R) → Int × List α → Option R) (K : List α → Option R)
  (hstep : ∀ k acc rec, k < len → acc.length = k → b rec ((k : Int), acc) = rec (((k + 1 : Nat) : Int), acc ++ [f k])) (hend : ∀ acc rec, acc.length = len → b rec ((len : Int), acc) = K acc)
  {N : Nat} (hN : len < N) : rds b N (0, []) = K ((List.range len).map f) := by
 refine rds_spec (fun s : Int × List α => ∃ k : Nat, k ≤ len ∧ s = ((k : Int), (List.range k).map f)) (fun s => len - s.1.toNat) (fun _ => K ((List.range len).map f)) (fun rec s hI hrec => ?_) N (0, []) ⟨0, Nat.zero_le _, by simp⟩ (by simp; omega)
 obtain ⟨k, hk, rfl⟩ := hI
 by_cases hkl : k < len
 ·
  rw [hstep k _ rec hkl (by simp)]
  refine hrec _ ⟨k + 1, hkl, ?_⟩ (by simp only [Int.toNat_natCast]; omega)
  rw [List.range_succ, List.map_append]; rfl
 ·
  have : k = len := by omega
  subst this
  exact hend _ rec (by simp)
end Go.PW

/-
 What the shallow functions of the planning chapter come to: rasters and cells.
-/
namespace Go.Sh
open Go.PW

def inB (n lo hi : Int) : Bool := (decide (lo ≤ n)) && (decide (n ≤ hi))
theorem inB_true {n lo hi : Int} : inB n lo hi = true ↔ lo ≤ n ∧ n ≤ hi := by simp [inB]
theorem within_eq (N : Nat) (n lo hi : Int) : plan_within N n lo hi = some (inB n lo hi) := rfl
theorem Within_eq (N : Nat) (n lo hi : Int) : base_Within N n lo hi = some (inB n lo hi) := rfl
theorem unless_eq (N : Nat) (b : Bool) (e : Int) : plan_unless N b e = some (if b = true then 0 else e) := by cases b <;> rfl
def firstE : List Int → Int
 | [] => 0
 | x :: l => if x ≠ 0 then x else firstE l
theorem getD_of {α : Type} {l : List α} {k : Nat} (h : k < l.length) (d : α) : l.getD k d = l[k] := by simp [List.getD_eq_getElem?_getD, h]
theorem first_eq {N : Nat} (hM : N ≤ 20000) (l : List Int) (h : l.length < N) : plan_first N l = some (firstE l) := by
 unfold plan_first
 simp only [jn]
 refine (rds_up1 l.length _ (fun k => some (firstE (l.drop k))) (fun k rec hk hr => ?_) (fun rec => ?_) h).trans (by simp)
 ·
  simp only [plan_first.b1]
  rw [br_pos (by simpa using hk), chk_pos (by omega), List.drop_eq_getElem_cons hk, firstE, w64_succ (by omega), hr, Int.toNat_natCast, getD_of hk]
  by_cases h0 : l[k] = 0 <;> simp [br, h0]
 · simp [plan_first.b1, br, firstE]

theorem f2a {x : Bool} (hx : x = false) {e : Int} (he : e ≠ 0) (z : Int) : firstE [if x = true then 0 else e, z] = e := by subst hx; simp [firstE, he]
theorem f2b {x : Bool} (hx : x = true) (e z : Int) : firstE [if x = true then 0 else e, z] = z := by
 subst hx
 simp only [firstE, if_true, ne_eq, not_true_eq_false, if_false]
 split
 · rfl
 · rename_i h; exact (Classical.not_not.1 h).symm

def idxF {α : Type} (p : α → Bool) : Nat → List α → Int
 | _, [] => -1
 | k, x :: l => if p x = true then (k : Int) else idxF p (k + 1) l
theorem IndexFunc_eq {N : Nat} (hM : N ≤ 20000) {f : Int → Option Bool} {p : Int → Bool} (hf : ∀ x, f x = some (p x)) (l : List Int) (h : l.length < N) : slices_IndexFunc_ii N l f = some (idxF p 0 l) := by
 unfold slices_IndexFunc_ii
 simp only [jn]
 refine (rds_up1 l.length _ (fun k => some (idxF p k (l.drop k))) (fun k rec hk hr => ?_) (fun rec => ?_) h).trans (by simp)
 ·
  simp only [slices_IndexFunc_ii.b1]
  rw [br_pos (by simpa using hk), chk_pos (by omega), List.drop_eq_getElem_cons hk, idxF, w64_succ (by omega), hr, Int.toNat_natCast, getD_of hk, hf, bnd_val]
  cases p l[k] <;> simp [br]
 · simp [slices_IndexFunc_ii.b1, br, idxF]

def chBad (f : Bool) (c : Int) : Bool :=
 ((!(((decide (c ≥ (97 : Int))) && (decide (c ≤ (122 : Int)))) || ((decide (c ≥ (65 : Int))) && (decide (c ≤ (90 : Int)))))) && (f || ((c != (45 : Int)) && ((decide (c < (48 : Int))) || (decide (c > (57 : Int)))))))
def nameL : Bool → List Int → Bool
 | _, [] => true
 | f, c :: l => !(chBad f c) && nameL false l
def nameOK (s : ByteArray) : Bool := decide (1 ≤ s.size ∧ s.size ≤ 12) && nameL true (bytesL s)
theorem noText (s : ByteArray) : (s.toList == (⟨#[]⟩ : ByteArray).toList) = decide (s.size = 0) := by
 rw [ByteArray.toList_eq, ByteArray.toList_eq]
 have : s.size = s.data.toList.length := by simp
 rw [this]
 cases s.data.toList <;> simp
theorem isName_eq {N : Nat} (hM : N ≤ 20000) (s : ByteArray) (h : s.size < N) : plan_isName N s = some (nameOK s) := by
 unfold plan_isName
 simp only [jn]
 have hl := bytesL_length s
 refine (rds_up1 (bytesL s).length _ (fun k => some (nameL (decide (k = 0)) ((bytesL s).drop k) && decide (1 ≤ s.size ∧ s.size ≤ 12))) (fun k rec hk hr => ?_) (fun rec => ?_) (by omega)).trans ?_
 ·
  simp only [plan_isName.b1]
  rw [br_pos (by simpa using hk), chk_pos (by omega), List.drop_eq_getElem_cons hk, nameL, w64_succ (by omega), hr]
  simp only [Int.toNat_natCast, getD_of hk]
  have hc : (((!(((decide (((bytesL s)[k]) ≥ (97 : Int))) && (decide (((bytesL s)[k]) ≤ (122 : Int)))) || ((decide (((bytesL s)[k]) ≥ (65 : Int))) && (decide (((bytesL s)[k]) ≤ (90 : Int)))))) && (((k : Int) == (0 : Int)) || ((((bytesL s)[k]) != (45 : Int)) && ((decide (((bytesL s)[k]) < (48 : Int))) || (decide (((bytesL s)[k]) > (57 : Int)))))))) = chBad (decide (k = 0)) (bytesL s)[k] := by
   unfold chBad
   have : ((k : Int) == 0) = decide (k = 0) := by rw [Bool.eq_iff_iff]; simp
   rw [this]
  rw [hc]
  cases chBad (decide (k = 0)) (bytesL s)[k]
  · simp [br]
  · simp [br]
 ·
  simp only [plan_isName.b1, noText]
  rw [br_neg (by simp)]
  simp only [List.drop_length, nameL, Bool.true_and, Option.some.injEq]
  rw [Bool.eq_iff_iff]
  simp only [Bool.and_eq_true, Bool.not_eq_true', decide_eq_false_iff_not, decide_eq_true_eq]
  omega
 · rw [nameOK, Bool.and_comm]; rfl
theorem IsName_eq {N : Nat} (hM : N ≤ 20000) (h12 : 12 < N) (s : ByteArray) : base_IsName N s = some (nameOK s) := by
 unfold base_IsName nameOK
 by_cases h1 : 1 ≤ s.size ∧ s.size ≤ 12
 ·
  rw [br_neg (by simp; omega)]
  simp only [jn]
  have hl := bytesL_length s
  refine (rds_up1 s.size _ (fun k => some (nameL (decide (k = 0)) ((bytesL s).drop k))) (fun k rec hk hr => ?_) (fun rec => ?_) (by omega)).trans (by simp [h1])
  ·
   have hk' : k < (bytesL s).length := by omega
   simp only [base_IsName.b1]
   rw [br_pos (by simpa using hk), chk_pos (by omega), List.drop_eq_getElem_cons hk', nameL, w64_succ (by omega), hr]
   have hb : ((s.data.getD k 0).toNat : Int) = (bytesL s)[k] := by rw [← bytesL_getD s hk, getD_of hk']
   simp only [Int.toNat_natCast, hb]
   have hc : (((!(((decide (((bytesL s)[k]) ≥ (97 : Int))) && (decide (((bytesL s)[k]) ≤ (122 : Int)))) || ((decide (((bytesL s)[k]) ≥ (65 : Int))) && (decide (((bytesL s)[k]) ≤ (90 : Int)))))) && (((k : Int) == (0 : Int)) || ((((bytesL s)[k]) != (45 : Int)) && ((decide (((bytesL s)[k]) < (48 : Int))) || (decide (((bytesL s)[k]) > (57 : Int)))))))) = chBad (decide (k = 0)) (bytesL s)[k] := by
    unfold chBad
    have : ((k : Int) == 0) = decide (k = 0) := by rw [Bool.eq_iff_iff]; simp
    rw [this]
   rw [hc]
   cases chBad (decide (k = 0)) (bytesL s)[k]
   · simp [br]
   · simp [br]
  ·
   simp only [base_IsName.b1]
   rw [br_neg (by simp), ← hl]
   simp [nameL]
 ·
  rw [br_pos (by simp; omega)]
  simp [h1]

abbrev Rows := List (List Int)
def badH (n : Int) : Bool := !(inB n 0 5000)
def rowR (L0 k : Nat) (row : List Int) : Option (Int × Int × Int) :=
 if row.length = 0 ∨ row.length ≠ L0 then some (k, 0, 10) else if 12 < row.length then some (k, 0, 8) else if 0 ≤ idxF badH 0 row then some (k, idxF badH 0 row, 2) else none
def rowsR (L0 : Nat) : Nat → Rows → Int × Int × Int
 | _, [] => (0, 0, 0)
 | k, row :: rest => match rowR L0 k row with
  | some e => e
  | none => rowsR L0 (k + 1) rest
def rasT (rows : Rows) : Int × Int × Int :=
 if rows.length = 0 then (0, 0, 10) else if 12 < rows.length then (0, 0, 8) else rowsR (rows.getD 0 default).length 0 rows
theorem CheckRaster_eq {N : Nat} (hM : N ≤ 20000) (h : 20 < N) {rows : Rows} (hl : rows.length < N) (hr : ∀ row ∈ rows, row.length < N) : plan_CheckRaster N rows = some (rasT rows) := by
 unfold plan_CheckRaster rasT
 simp only [unless_eq, bnd_val]
 rw [first_eq hM _ (by simp; omega), bnd_val]
 by_cases h0 : rows.length = 0
 · rw [if_pos h0]; simp [firstE, h0, br]
 rw [if_neg h0]
 have h0' : rows ≠ [] := by intro e; subst e; exact h0 rfl
 by_cases h1 : 12 < rows.length
 · rw [if_pos h1]; simp [firstE, br, h0', show (0 : Nat) < rows.length by omega, show ¬ (rows.length : Int) ≤ 12 by omega]
 rw [if_neg h1]
 have e : firstE [if decide ((rows.length : Int) > 0) = true then 0 else 10, if decide ((rows.length : Int) ≤ 12) = true then 0 else 8] = 0 := by
  simp [firstE, h0', show (0 : Nat) < rows.length by omega, show (rows.length : Int) ≤ 12 by omega]
 rw [e, br_neg (by rfl)]
 simp only [jn]
 refine (rds_up1 rows.length _ (fun k => some (rowsR (rows.getD 0 default).length k (rows.drop k))) (fun k rec hk hrec => ?_) (fun rec => ?_) hl).trans (by simp)
 ·
  simp only [plan_CheckRaster.b1]
  rw [br_pos (by simpa using hk), chk_pos (by omega), chk_pos (by intro _; omega), List.drop_eq_getElem_cons hk, w64_succ (by omega), hrec]
  simp only [Int.toNat_natCast, getD_of hk, unless_eq, bnd_val]
  rw [first_eq hM _ (by simp; omega), bnd_val, IndexFunc_eq hM (f := fun y0 => plan_CheckRaster_1 N y0) (p := badH) (fun x => rfl) _ (hr _ (List.getElem_mem hk)), bnd_val]
  generalize (rows.getD 0 default).length = L0
  generalize rows[k] = row
  simp only [rowsR, rowR]
  by_cases h2 : row.length = 0 ∨ row.length ≠ L0
  ·
   have e2 : (decide ((row.length : Int) > 0) && ((row.length : Int) == (L0 : Int))) = false := by
    rw [Bool.eq_false_iff]; intro hc
    simp only [Bool.and_eq_true, decide_eq_true_eq, beq_iff_eq] at hc
    omega
   rw [if_pos h2, f2a e2 (by decide), br_pos (by rfl)]
  ·
   rw [if_neg h2]
   have e2 : (decide ((row.length : Int) > 0) && ((row.length : Int) == (L0 : Int))) = true := by
    simp only [Bool.and_eq_true, decide_eq_true_eq, beq_iff_eq]
    omega
   rw [f2b e2]
   by_cases h3 : 12 < row.length
   · rw [if_pos h3, show decide ((row.length : Int) ≤ 12) = false by simp; omega, br_pos (by rfl)]; rfl
   ·
    rw [if_neg h3]
    have e3 : (if decide ((row.length : Int) ≤ 12) = true then (0 : Int) else 8) = 0 := by rw [if_pos (by simp; omega)]
    rw [e3, br_neg (by rfl)]
    by_cases h4 : 0 ≤ idxF badH 0 row
    · rw [if_pos h4, br_pos (by simpa using h4)]
    · rw [if_neg h4, br_neg (by simpa using h4)]
 · simp [plan_CheckRaster.b1, br, rowsR]
theorem RefRaster_eq {N : Nat} (hM : N ≤ 20000) (h : 20 < N) (rows : Rows) : ref09_CheckRaster N rows = some (rasT rows) := by
 unfold ref09_CheckRaster rasT
 by_cases h0 : rows.length = 0
 · rw [if_pos h0, br_pos (by simpa using h0)]
 rw [if_neg h0, br_neg (by simpa using h0)]
 by_cases h1 : 12 < rows.length
 · rw [if_pos h1, br_pos (by simp; omega)]
 rw [if_neg h1, br_neg (by simp; omega)]
 simp only [jn]
 refine (rds_up1 rows.length _ (fun k => some (rowsR (rows.getD 0 default).length k (rows.drop k))) (fun k rec hk hrec => ?_) (fun rec => ?_) (show rows.length < N by omega)).trans (by simp)
 ·
  simp only [ref09_CheckRaster.b1, jn]
  rw [br_pos (by simpa using hk), chk_pos (by omega), chk_pos (by intro _; omega), chk_pos (by intro _; omega), List.drop_eq_getElem_cons hk, w64_succ (by omega)]
  simp only [Int.toNat_natCast, getD_of hk, rowsR, rowR]
  by_cases h2 : rows[k].length = 0 ∨ rows[k].length ≠ (rows.getD 0 default).length
  ·
   rw [if_pos h2, br_pos (by
    simp only [Bool.or_eq_true, beq_iff_eq, bne_iff_ne]
    omega)]
  ·
   rw [if_neg h2, br_neg (by
    rw [Bool.or_eq_false_iff]
    simp only [beq_eq_false_iff_ne, bne_eq_false_iff_eq]
    omega), chk_pos (by omega)]
   by_cases h3 : 12 < rows[k].length
   · rw [if_pos h3, br_pos (by simp; omega)]
   ·
    rw [if_neg h3, br_neg (by simp; omega)]
    refine (rds_up1 rows[k].length _ (fun j => if 0 ≤ idxF badH j (rows[k].drop j) then some ((k : Int), idxF badH j (rows[k].drop j), (2 : Int)) else some (rowsR (rows.getD 0 default).length (k + 1) (rows.drop (k + 1)))) (fun j rec1 hj hrec1 => ?_) (fun rec1 => ?_) (show rows[k].length < N by omega)).trans ?_
    ·
     simp only [ref09_CheckRaster.b2]
     rw [chk_pos (by omega)]
     simp only [Int.toNat_natCast, getD_of hk]
     rw [br_pos (by simpa using hj), chk_pos (by omega), chk_pos (by omega), List.drop_eq_getElem_cons hj, idxF, w64_succ (by omega), hrec1]
     simp only [getD_of hj, Within_eq, bnd_val]
     rw [show badH rows[k][j] = !(inB rows[k][j] 0 5000) from rfl]
     cases inB rows[k][j] 0 5000 <;> simp [br]
    ·
     simp only [ref09_CheckRaster.b2]
     rw [chk_pos (by omega)]
     simp only [Int.toNat_natCast, getD_of hk]
     rw [br_neg (by simp), hrec]
     simp [idxF]
    ·
     simp only [List.drop_zero]
     split <;> rfl
 · simp [ref09_CheckRaster.b1, br, rowsR]

theorem CopyInts_eq (N : Nat) {l : List Int} (h : l.length ≤ 1000000000) : base_CopyInts N l = some l := by
 unfold base_CopyInts
 rw [chk_pos (by simpa using h)]; rfl
theorem CopyLists_eq {N : Nat} (hM : N ≤ 20000) {rows : Rows} (hl : rows.length < N) (hr : ∀ row ∈ rows, row.length ≤ 1000000000) : base_CopyLists N rows = some rows := by
 unfold base_CopyLists
 simp only [jn]
 refine (rds_map rows.length (fun k => rows.getD k default) _ (fun l => some l) (fun k acc rec hk ha => ?_) (fun acc rec ha => ?_) hl).trans ?_
 ·
  simp only [base_CopyLists.b1]
  rw [br_pos (by simpa using hk), chk_pos (by omega), Int.toNat_natCast, getD_of hk, CopyInts_eq N (hr _ (List.getElem_mem hk)), bnd_val, chk_pos (by simp; omega), w64_succ (by omega)]
 · simp [base_CopyLists.b1, br]
 ·
  congr 1
  refine List.ext_getElem (by simp) fun k h1 h2 => ?_
  simp only [List.getElem_map, List.getElem_range, getD_of h2]
theorem CopyRaster_eq {N : Nat} (hM : N ≤ 20000) {rows : Rows} (hl : rows.length < N) (hr : ∀ row ∈ rows, row.length ≤ 1000000000) : ref09_CopyRaster N rows = some rows := by
 unfold ref09_CopyRaster
 rw [CopyLists_eq hM hl hr]; rfl

def ownE (name : ByteArray) (id : Int) : Int := if nameOK name = false then 4 else if inB id 0 1007 = false then 2 else 0
noncomputable def pointE (rows : Rows) (a b : Int) : Int := if (inB a 0 (w64 ((rows.length : Int) - 1)) && inB b 0 (w64 (((rows.getD 0 default).length : Int) - 1))) = true then 0 else 6
def numE (m p t : Int) : Int := if ((inB m 1 200 && inB p (-2000) 1000) && inB t 0 11) = true then 0 else 2
noncomputable def cellE (rows : Rows) (name : ByteArray) (id a b m p t : Int) : Int := firstE [(rasT rows).2.2, ownE name id, pointE rows a b, numE m p t]
theorem ownErr_eq {N : Nat} (hM : N ≤ 20000) (h : 20 < N) (name : ByteArray) (hn : name.size < N) (id a b m p t : Int) : plan_ownErr N name id a b m p t = some (ownE name id) := by
 unfold plan_ownErr plan_isIdentity
 simp only [isName_eq hM name hn, within_eq, unless_eq, bnd_val]
 rw [first_eq hM _ (by simp; omega), bnd_val]
 unfold ownE
 cases nameOK name <;> cases inB id 0 1007 <;> rfl
theorem ItselfErr_eq {N : Nat} (hM : N ≤ 20000) (h : 20 < N) (name : ByteArray) (id a b m p t : Int) : ref09_ItselfErr N name id a b m p t = some (ownE name id) := by
 unfold ref09_ItselfErr ref09_IdentityErr ownE
 simp only [IsName_eq hM (by omega : 12 < N) name, Within_eq, bnd_val]
 cases nameOK name <;> cases inB id 0 1007 <;> rfl
theorem point_chk {rows : Rows} (h : rows.length ≤ 1000000000) {a : Int} (hx : inB a 0 (w64 ((rows.length : Int) - 1)) = true) : 0 ≤ (0 : Int) ∧ (0 : Int) < (rows.length : Int) := by
 rw [w64_id (by omega)] at hx
 have := inB_true.1 hx
 omega
theorem pointErr_eq {N : Nat} {rows : Rows} (h : rows.length ≤ 1000000000) (a b : Int) : plan_pointErr N rows a b = some (pointE rows a b) := by
 unfold plan_pointErr pointE
 simp only [within_eq, bnd_val, unless_eq]
 rw [chk_pos (point_chk h)]
 cases inB a 0 (w64 ((rows.length : Int) - 1)) <;> cases inB b 0 (w64 (((rows.getD 0 default).length : Int) - 1)) <;> rfl
theorem PointErr_eq {N : Nat} {rows : Rows} (h : rows.length ≤ 1000000000) (a b : Int) : ref09_PointErr N rows a b = some (pointE rows a b) := by
 unfold ref09_PointErr pointE
 simp only [Within_eq, bnd_val]
 rw [chk_pos (point_chk h)]
 cases inB a 0 (w64 ((rows.length : Int) - 1)) <;> cases inB b 0 (w64 (((rows.getD 0 default).length : Int) - 1)) <;> rfl
theorem numbersErr_eq {N : Nat} (name : ByteArray) (id a b m p t : Int) : plan_numbersErr N name id a b m p t = some (numE m p t) := by
 unfold plan_numbersErr plan_isLevel numE
 simp only [within_eq, bnd_val, unless_eq]
 cases inB m 1 200 <;> cases inB p (-2000) 1000 <;> cases inB t 0 11 <;> rfl
theorem NumbersErr_eq {N : Nat} (name : ByteArray) (id a b m p t : Int) : ref09_NumbersErr N name id a b m p t = some (numE m p t) := by
 unfold ref09_NumbersErr ref09_isTilt numE
 simp only [Within_eq, bnd_val]
 cases inB m 1 200 <;> cases inB p (-2000) 1000 <;> cases inB t 0 11 <;> rfl
theorem CheckCell_eq {N : Nat} (hM : N ≤ 20000) (h : 20 < N) {rows : Rows} (hl : rows.length < N) (hr : ∀ row ∈ rows, row.length < N) (name : ByteArray) (hn : name.size < N) (id a b m p t : Int) :
  plan_CheckCell N rows name id a b m p t = some (cellE rows name id a b m p t) := by
 unfold plan_CheckCell plan_rasterErr
 rw [CheckRaster_eq hM h hl hr, bnd_val, bnd_val, ownErr_eq hM h name hn, bnd_val, pointErr_eq (by omega), bnd_val, numbersErr_eq, bnd_val, first_eq hM _ (by simp; omega)]
 rfl
theorem CellErr_eq {N : Nat} (hM : N ≤ 20000) (h : 20 < N) {rows : Rows} (hl : rows.length ≤ 1000000000) (name : ByteArray) (id a b m p t : Int) :
  ref09_CellErr N rows name id a b m p t = some (cellE rows name id a b m p t) := by
 unfold ref09_CellErr ref09_RasterErr cellE
 rw [RefRaster_eq hM h, bnd_val, bnd_val, ItselfErr_eq hM h, bnd_val, PointErr_eq hl, bnd_val, NumbersErr_eq, bnd_val]
 simp only [firstE]
 by_cases h1 : (rasT rows).2.2 = 0
 ·
  rw [h1, br_neg (by rfl), if_neg (by simp)]
  by_cases h2 : ownE name id = 0
  ·
   rw [h2, br_neg (by rfl), if_neg (by simp)]
   by_cases h3 : pointE rows a b = 0
   ·
    rw [h3, br_neg (by rfl), if_neg (by simp)]
    by_cases h4 : numE m p t = 0
    · rw [h4]; rfl
    · rw [if_pos h4]
   · rw [br_pos (by simpa using h3), if_pos h3]
  · rw [br_pos (by simpa using h2), if_pos h2]
 · rw [br_pos (by simpa using h1), if_pos h1]

def badL (n : Nat) : Bool := ((decide ((n : Int) > 5)) && (decide ((n : Int) ≤ 12))) || (decide ((n : Int) > 14))
theorem badL_le {n : Nat} (h : badL n = false) : n ≤ 14 := by
 simp only [badL, Bool.or_eq_false_iff, decide_eq_false_iff_not] at h
 omega
theorem raster_eq {N : Nat} (hM : N ≤ 20000) (h : 20 < N) (rows : Rows) : law09_raster N rows = some (!badL rows.length && rows.all fun r => !badL r.length) := by
 unfold law09_raster
 rw [show (((decide ((rows.length : Int) > 5)) && (decide ((rows.length : Int) ≤ 12))) || (decide ((rows.length : Int) > 14))) = badL rows.length from rfl]
 cases hb : badL rows.length with
 | true => rfl
 | false =>
  rw [br_neg rfl]
  have hl := badL_le hb
  simp only [jn]
  refine (rds_up1 rows.length _ (fun k => some ((rows.drop k).all fun r => !badL r.length)) (fun k rec hk hr => ?_) (fun rec => ?_) (show rows.length < N by omega)).trans (by simp)
  ·
   simp only [law09_raster.b1]
   rw [br_pos (by simpa using hk), chk_pos (by omega), chk_pos (by intro _; omega), chk_pos (by intro _; omega), List.drop_eq_getElem_cons hk, w64_succ (by omega), hr]
   simp only [Int.toNat_natCast, getD_of hk, List.all_cons]
   rw [show (((decide ((rows[k].length : Int) > 5)) && (decide ((rows[k].length : Int) ≤ 12))) || (decide ((rows[k].length : Int) > 14))) = badL rows[k].length from rfl]
   cases badL rows[k].length <;> simp [br]
  · simp [law09_raster.b1, br]
end Go.Sh

/-
 Whether a cell sees a point: the same on both sides.
-/
namespace Go.Sh
open Go.PW

theorem rowR_bad {L0 k : Nat} {row : List Int} {e : Int × Int × Int} (h : rowR L0 k row = some e) : e.2.2 ≠ 0 := by
 unfold rowR at h
 split at h
 · cases h; simp
 ·
  split at h
  · cases h; simp
  ·
   split at h
   · cases h; simp
   · cases h
theorem rowsR_zero {L0 : Nat} : ∀ {rows : Rows} {k : Nat}, (rowsR L0 k rows).2.2 = 0 → ∀ row ∈ rows, row.length = L0 ∧ row.length ≤ 12 ∧ row.length ≠ 0
 | [], _, _, row, hr => by simp at hr
 | r :: rest, k, h, row, hr => by
  simp only [rowsR] at h
  cases he : rowR L0 k r with
  | some e => rw [he] at h; exact absurd h (rowR_bad he)
  | none =>
   rw [he] at h
   rcases List.mem_cons.1 hr with e | hr'
   ·
    subst e
    unfold rowR at he
    split at he
    · cases he
    ·
     split at he
     · cases he
     ·
      rename_i h1 h2
      omega
   · exact rowsR_zero h row hr'
theorem rasT_zero {rows : Rows} (h : (rasT rows).2.2 = 0) : rows.length ≠ 0 ∧ rows.length ≤ 12 ∧ ∀ row ∈ rows, row.length = (rows.getD 0 default).length ∧ row.length ≤ 12 ∧ row.length ≠ 0 := by
 unfold rasT at h
 split at h
 · exact absurd h (by decide)
 ·
  split at h
  · exact absurd h (by decide)
  ·
   rename_i h0 h1
   exact ⟨h0, by omega, rowsR_zero h⟩
structure RasOK (rows : Rows) (L : Nat) : Prop where
 n0 : 1 ≤ rows.length
 n12 : rows.length ≤ 12
 l0 : 1 ≤ L
 l12 : L ≤ 12
 at0 : (rows.getD 0 default).length = L
 all : ∀ i : Nat, i < rows.length → (rows.getD i default).length = L
theorem rasOK_of {rows : Rows} (h : (rasT rows).2.2 = 0) : RasOK rows (rows.getD 0 default).length := by
 obtain ⟨h0, h1, h2⟩ := rasT_zero h
 have hz : 0 < rows.length := by omega
 have h3 := h2 (rows.getD 0 default) (by rw [getD_of hz]; exact List.getElem_mem hz)
 exact ⟨by omega, h1, by omega, h3.2.1, rfl, fun i hi => (h2 _ (by rw [getD_of hi]; exact List.getElem_mem hi)).1⟩
def inP (rows : Rows) (L : Nat) (a b : Int) : Prop := (0 ≤ a ∧ a < (rows.length : Int)) ∧ 0 ≤ b ∧ b < (L : Int)
theorem point_zero {rows : Rows} {L : Nat} (hr : RasOK rows L) {a b : Int} (h : pointE rows a b = 0) : inP rows L a b := by
 unfold pointE at h
 have := hr.n0; have := hr.n12; have := hr.l0; have := hr.l12
 rw [hr.at0, w64_id (by omega), w64_id (by omega)] at h
 split at h
 ·
  rename_i hc
  simp only [Bool.and_eq_true, inB_true] at hc
  unfold inP
  omega
 · exact absurd h (by decide)

theorem mul_bd {a b A B : Int} (ha : -A ≤ a ∧ a ≤ A) (hb : -B ≤ b ∧ b ≤ B) : -(A * B) ≤ a * b ∧ a * b ≤ A * B := by
 have h1 : a.natAbs ≤ A.toNat := by omega
 have h2 : b.natAbs ≤ B.toNat := by omega
 have h3 : (a * b).natAbs ≤ A.toNat * B.toNat := by rw [Int.natAbs_mul]; exact Nat.mul_le_mul h1 h2
 have h4 : ((A.toNat * B.toNat : Nat) : Int) = A * B := by
  rw [Int.natCast_mul, Int.toNat_of_nonneg (by omega), Int.toNat_of_nonneg (by omega)]
 omega
theorem floor_eq {a b : Int} (hb : 0 < b) : (if a.tmod b < 0 then a.tdiv b - 1 else a.tdiv b) = a / b := by
 have h1 := Int.mul_tdiv_add_tmod a b
 have h2 := Int.tmod_lt_of_pos a hb
 have h3 := Int.lt_tmod_of_pos a hb
 split
 ·
  rename_i h
  refine ((Int.ediv_emod_unique hb (r := a.tmod b + b) (q := a.tdiv b - 1)).2 ⟨?_, by omega, by omega⟩).1.symm
  rw [Int.mul_sub, Int.mul_one]; omega
 · exact ((Int.ediv_emod_unique hb (r := a.tmod b) (q := a.tdiv b)).2 ⟨by omega, by omega, by omega⟩).1.symm
theorem tdiv_bd {a b : Int} (ha : -1000 ≤ a ∧ a ≤ 1000) : -1000 ≤ a.tdiv b ∧ a.tdiv b ≤ 1000 := by
 have h1 : (a.tdiv b).natAbs ≤ a.natAbs := by rw [Int.natAbs_tdiv]; exact Nat.div_le_self _ _
 omega
theorem fl_br {a b : Int} (hb : 0 < b) (ha : -1000 ≤ a ∧ a ≤ 1000) : br (decide (a.tmod b < (0 : Int))) (some (w64 ((w64 (a.tdiv b)) - (1 : Int)))) (some (w64 (a.tdiv b))) = some (a / b) := by
 have h1 := tdiv_bd (b := b) ha
 rw [w64_id (n := a.tdiv b) (by omega), w64_id (n := a.tdiv b - 1) (by omega), ← floor_eq hb]
 by_cases h : a.tmod b < 0
 · rw [br_pos (by simpa using h), if_pos h]
 · rw [br_neg (by simpa using h), if_neg h]
theorem nearest_eq {N : Nat} {m n : Int} (hn : 1 ≤ n ∧ n ≤ 12) (hm : -144 ≤ m ∧ m ≤ 144) : plan_nearest N m n = some ((2 * m + n) / (2 * n)) := by
 unfold plan_nearest
 rw [w64_id (n := 2 * n) (by omega), w64_id (n := 2 * m) (by omega), w64_id (n := 2 * m + n) (by omega), chk_pos (by omega), chk_pos (by omega), fl_br (by omega) (by omega)]
theorem Floor_eq {N : Nat} {a b : Int} (hb : 0 < b) (ha : -1000 ≤ a ∧ a ≤ 1000) : base_Floor N a b = some (a / b) := by
 unfold base_Floor
 rw [chk_pos (by omega), chk_pos (by omega), fl_br hb ha]

def qF (n k d : Int) : Int := (2 * (k * d) + n) / (2 * n)
theorem qF_bd {n k d : Int} (hk : 1 ≤ k) (hkn : k < n) : (0 ≤ d → 0 ≤ qF n k d ∧ qF n k d ≤ d) ∧ (d ≤ 0 → d ≤ qF n k d ∧ qF n k d ≤ 0) := by
 have hn : 0 < 2 * n := by omega
 have e1 : d * (2 * n) = 2 * (n * d) := by rw [Int.mul_left_comm, Int.mul_comm d n]
 have e2 : (d + 1) * (2 * n) = 2 * (n * d) + 2 * n := by rw [Int.add_mul, Int.one_mul, e1]
 unfold qF
 refine ⟨fun hd => ?_, fun hd => ?_⟩
 ·
  have h1 : 0 ≤ k * d := Int.mul_nonneg (by omega) hd
  have h2 : k * d ≤ n * d := Int.mul_le_mul_of_nonneg_right (by omega) hd
  refine ⟨(Int.le_ediv_iff_mul_le hn).2 (by omega), Int.lt_add_one_iff.1 ((Int.ediv_lt_iff_lt_mul hn).2 (by omega))⟩
 ·
  have h1 : n * d ≤ k * d := Int.mul_le_mul_of_nonpos_right (by omega) hd
  have h2 : k * d ≤ 0 * d := Int.mul_le_mul_of_nonpos_right (by omega) hd
  refine ⟨(Int.le_ediv_iff_mul_le hn).2 (by omega), Int.lt_add_one_iff.1 ((Int.ediv_lt_iff_lt_mul hn).2 (by omega))⟩
theorem qF_in {n k a c H : Int} (hk : 1 ≤ k) (hkn : k < n) (ha : 0 ≤ a ∧ a < H) (hc : 0 ≤ c ∧ c < H) : 0 ≤ c + qF n k (a - c) ∧ c + qF n k (a - c) < H := by
 have h := qF_bd (d := a - c) hk hkn
 by_cases hd : 0 ≤ a - c
 · have := h.1 hd; omega
 · have := h.2 (by omega); omega
noncomputable def szV (n : Int) : Int := if n < w64 (0 - n) then w64 (0 - n) else n
noncomputable def stepV (a0 a1 b0 b1 : Int) : Int := if szV (w64 (a0 - b0)) < szV (w64 (a1 - b1)) then szV (w64 (a1 - b1)) else szV (w64 (a0 - b0))
theorem steps_eq (N : Nat) (a0 a1 b0 b1 : Int) : plan_steps N a0 a1 b0 b1 = some (stepV a0 a1 b0 b1) := rfl
theorem Steps_eq (N : Nat) (a0 a1 b0 b1 : Int) : ref09_Steps N a0 a1 b0 b1 = some (stepV a0 a1 b0 b1) := rfl
theorem szV_bd {n : Int} (h : -12 ≤ n ∧ n ≤ 12) : 0 ≤ szV (w64 n) ∧ szV (w64 n) ≤ 12 := by
 unfold szV
 rw [w64_id (n := n) (by omega), w64_id (n := 0 - n) (by omega)]
 split <;> omega
theorem stepV_bd {a0 a1 b0 b1 : Int} (h0 : -12 ≤ a0 - b0 ∧ a0 - b0 ≤ 12) (h1 : -12 ≤ a1 - b1 ∧ a1 - b1 ≤ 12) : 0 ≤ stepV a0 a1 b0 b1 ∧ stepV a0 a1 b0 b1 ≤ 12 := by
 have := szV_bd h0
 have := szV_bd h1
 unfold stepV
 split <;> omega

def allF (cond : Int → Bool) : Nat → Int → Bool
 | 0, _ => true
 | m + 1, k => !cond k && allF cond m (k + 1)
theorem sees_loop {b : (Int → Option Bool) → Int → Option Bool} {cond : Int → Bool} {n : Int} (hn : n ≤ 12) (hb : ∀ rec k, 1 ≤ k → k < n → b rec k = br (cond k) (some false) (rec (w64 (k + 1)))) (he : ∀ rec k, ¬ k < n → b rec k = some true) {N : Nat} (hN : 20 < N) :
  rds b N 1 = some (allF cond (n - 1).toNat 1) := by
 refine rds_spec (fun k : Int => 1 ≤ k) (fun k => (n - k).toNat) (fun k => some (allF cond (n - k).toNat k)) (fun rec k hk hrec => ?_) N 1 (by decide) (by omega)
 by_cases h : k < n
 ·
  rw [hb rec k hk h, w64_id (by omega), hrec (k + 1) (by omega) (by omega)]
  obtain ⟨m, hm⟩ : ∃ m, (n - k).toNat = m + 1 := ⟨(n - k).toNat - 1, by omega⟩
  have hm2 : (n - (k + 1)).toNat = m := by omega
  rw [hm, hm2, allF]
  cases cond k <;> rfl
 ·
  rw [he rec k h]
  have : (n - k).toNat = 0 := by omega
  rw [this]; rfl
def hgt (rows : Rows) (a b : Int) : Int := (rows.getD a.toNat default).getD b.toNat 0
noncomputable def condS (rows : Rows) (c0 c1 mast a0 a1 n k : Int) : Bool :=
 decide (w64 (n * hgt rows (c0 + qF n k (a0 - c0)) (c1 + qF n k (a1 - c1))) > w64 ((w64 ((w64 (n - k)) * (w64 (hgt rows c0 c1 + mast)))) + (w64 (k * (w64 (hgt rows a0 a1 + (2 : Int)))))))
noncomputable def seesV (rows : Rows) (c0 c1 mast a0 a1 : Int) : Bool := allF (condS rows c0 c1 mast a0 a1 (stepV c0 c1 a0 a1)) (stepV c0 c1 a0 a1 - 1).toNat 1
section
variable {rows : Rows} {L : Nat}
theorem sees1_eq (N : Nat) (hr : RasOK rows L) {a b : Int} (h : inP rows L a b) : plan_sees_1 N a b rows = some (hgt rows a b) := by
 unfold plan_sees_1
 rw [chk_pos h.1, chk_pos (by rw [hr.all a.toNat (by have := h.1; omega)]; exact h.2)]
 rfl
theorem inP_mid (hr : RasOK rows L) {c0 c1 a0 a1 n k : Int} (hc : inP rows L c0 c1) (ha : inP rows L a0 a1) (hk : 1 ≤ k) (hkn : k < n) : inP rows L (c0 + qF n k (a0 - c0)) (c1 + qF n k (a1 - c1)) :=
 ⟨qF_in hk hkn ha.1 hc.1, qF_in hk hkn ha.2 hc.2⟩
theorem sees_eq {N : Nat} (hN : 20 < N) (hr : RasOK rows L) (name : ByteArray) (id : Int) {c0 c1 a0 a1 : Int} (hc : inP rows L c0 c1) (ha : inP rows L a0 a1) (mast p t : Int) :
  plan_sees N rows name id c0 c1 mast p t a0 a1 = some (seesV rows c0 c1 mast a0 a1) := by
 have hb0 : rows.length ≤ 12 := hr.n12
 have hb1 : L ≤ 12 := hr.l12
 have hs := stepV_bd (a0 := c0) (a1 := c1) (b0 := a0) (b1 := a1) (by have := hc.1; have := ha.1; omega) (by have := hc.2; have := ha.2; omega)
 unfold plan_sees seesV
 rw [steps_eq, bnd_val, sees1_eq N hr hc, bnd_val, sees1_eq N hr ha, bnd_val]
 simp only [jn]
 generalize stepV c0 c1 a0 a1 = n at hs ⊢
 refine sees_loop hs.2 (fun rec k hk hkn => ?_) (fun rec k hk => ?_) hN
 ·
  have hm := inP_mid hr hc ha hk hkn
  have d0 := mul_bd (a := k) (b := a0 - c0) (A := 12) (B := 12) (by omega) (by have := hc.1; have := ha.1; omega)
  have d1 := mul_bd (a := k) (b := a1 - c1) (A := 12) (B := 12) (by omega) (by have := hc.2; have := ha.2; omega)
  simp only [plan_sees.b1, jn]
  rw [br_pos (by simpa using hkn), w64_id (n := a0 - c0) (by have := hc.1; have := ha.1; omega), w64_id (n := k * (a0 - c0)) (by omega), nearest_eq (by omega) (by omega), bnd_val,
   w64_id (n := a1 - c1) (by have := hc.2; have := ha.2; omega), w64_id (n := k * (a1 - c1)) (by omega), nearest_eq (by omega) (by omega), bnd_val]
  have e0 : (2 * (k * (a0 - c0)) + n) / (2 * n) = qF n k (a0 - c0) := rfl
  have e1 : (2 * (k * (a1 - c1)) + n) / (2 * n) = qF n k (a1 - c1) := rfl
  rw [e0, e1, w64_id (n := c0 + qF n k (a0 - c0)) (by have := hm.1; omega), w64_id (n := c1 + qF n k (a1 - c1)) (by have := hm.2; omega), sees1_eq N hr hm, bnd_val]
  rfl
 ·
  simp only [plan_sees.b1]
  rw [br_neg (by simpa using hk)]
theorem RefSees_eq {N : Nat} (hN : 20 < N) (hr : RasOK rows L) (name : ByteArray) (id : Int) {c0 c1 a0 a1 : Int} (hc : inP rows L c0 c1) (ha : inP rows L a0 a1) (mast p t : Int) :
  ref09_Sees N rows name id c0 c1 mast p t a0 a1 = some (seesV rows c0 c1 mast a0 a1) := by
 have hb0 : rows.length ≤ 12 := hr.n12
 have hb1 : L ≤ 12 := hr.l12
 have hs := stepV_bd (a0 := c0) (a1 := c1) (b0 := a0) (b1 := a1) (by have := hc.1; have := ha.1; omega) (by have := hc.2; have := ha.2; omega)
 have hlen : ∀ {a b : Int}, inP rows L a b → 0 ≤ b ∧ b < ((rows.getD a.toNat default).length : Int) := fun h => by
  rw [hr.all _ (by have := h.1; omega)]; exact h.2
 unfold ref09_Sees seesV
 rw [Steps_eq, bnd_val, chk_pos hc.1, chk_pos (hlen hc), chk_pos ha.1, chk_pos (hlen ha)]
 simp only [jn]
 generalize stepV c0 c1 a0 a1 = n at hs ⊢
 refine sees_loop hs.2 (fun rec k hk hkn => ?_) (fun rec k hk => ?_) hN
 ·
  have hm := inP_mid hr hc ha hk hkn
  have d0 := mul_bd (a := k) (b := a0 - c0) (A := 12) (B := 12) (by omega) (by have := hc.1; have := ha.1; omega)
  have d1 := mul_bd (a := k) (b := a1 - c1) (A := 12) (B := 12) (by omega) (by have := hc.2; have := ha.2; omega)
  have f0 : (2 * (a0 - c0)) * k = 2 * (k * (a0 - c0)) := by rw [Int.mul_assoc, Int.mul_comm (a0 - c0) k]
  have f1 : (2 * (a1 - c1)) * k = 2 * (k * (a1 - c1)) := by rw [Int.mul_assoc, Int.mul_comm (a1 - c1) k]
  simp only [ref09_Sees.b1]
  rw [br_pos (by simpa using hkn), w64_id (n := a0 - c0) (by have := hc.1; have := ha.1; omega), w64_id (n := 2 * (a0 - c0)) (by have := hc.1; have := ha.1; omega), f0, w64_id (n := 2 * (k * (a0 - c0))) (by omega), w64_id (n := 2 * (k * (a0 - c0)) + n) (by omega), w64_id (n := 2 * n) (by omega),
   Floor_eq (by omega) (by omega), bnd_val, w64_id (n := a1 - c1) (by have := hc.2; have := ha.2; omega), w64_id (n := 2 * (a1 - c1)) (by have := hc.2; have := ha.2; omega), f1, w64_id (n := 2 * (k * (a1 - c1))) (by omega), w64_id (n := 2 * (k * (a1 - c1)) + n) (by omega), Floor_eq (by omega) (by omega), bnd_val]
  have e0 : (2 * (k * (a0 - c0)) + n) / (2 * n) = qF n k (a0 - c0) := rfl
  have e1 : (2 * (k * (a1 - c1)) + n) / (2 * n) = qF n k (a1 - c1) := rfl
  rw [e0, e1, w64_id (n := c0 + qF n k (a0 - c0)) (by have := hm.1; omega), w64_id (n := c1 + qF n k (a1 - c1)) (by have := hm.2; omega), chk_pos hm.1, chk_pos (hlen hm)]
  rfl
 ·
  simp only [ref09_Sees.b1]
  rw [br_neg (by simpa using hk)]
end

noncomputable def seesE (rows : Rows) (name : ByteArray) (id c0 c1 m p t a0 a1 : Int) : Int := firstE [cellE rows name id c0 c1 m p t, pointE rows a0 a1]
theorem cellE_zero {rows : Rows} {name : ByteArray} {id a b m p t : Int} (h : cellE rows name id a b m p t = 0) : (rasT rows).2.2 = 0 ∧ pointE rows a b = 0 := by
 unfold cellE at h
 simp only [firstE] at h
 split at h
 · rename_i h1; exact absurd h h1
 ·
  rename_i h1
  split at h
  · rename_i h2; exact absurd h h2
  ·
   split at h
   · rename_i h3; exact absurd h h3
   ·
    rename_i h3
    exact ⟨Classical.not_not.1 h1, Classical.not_not.1 h3⟩
theorem Sees_eq {N : Nat} (hM : N ≤ 20000) (h : 20 < N) {rows : Rows} (hl : rows.length < N) (hr : ∀ row ∈ rows, row.length < N) (name : ByteArray) (hn : name.size < N) (id c0 c1 m p t a0 a1 : Int) :
  plan_Sees N rows name id c0 c1 m p t a0 a1 = some (if seesE rows name id c0 c1 m p t a0 a1 ≠ 0 then (false, seesE rows name id c0 c1 m p t a0 a1) else (seesV rows c0 c1 m a0 a1, 0)) := by
 unfold plan_Sees
 rw [CheckCell_eq hM h hl hr name hn, bnd_val, pointErr_eq (by omega), bnd_val, first_eq hM _ (by simp; omega), bnd_val]
 rw [show firstE [cellE rows name id c0 c1 m p t, pointE rows a0 a1] = seesE rows name id c0 c1 m p t a0 a1 from rfl]
 by_cases he : seesE rows name id c0 c1 m p t a0 a1 = 0
 ·
  rw [br_neg (by simpa using he), if_neg (by simpa using he)]
  have h2 := he
  unfold seesE at h2
  simp only [firstE] at h2
  split at h2
  · rename_i h3; exact absurd h2 h3
  ·
   rename_i h3
   split at h2
   · rename_i h4; exact absurd h2 h4
   ·
    rename_i h4
    obtain ⟨h5, h6⟩ := cellE_zero (Classical.not_not.1 h3)
    have hras := rasOK_of h5
    rw [sees_eq h hras name id (point_zero hras h6) (point_zero hras (Classical.not_not.1 h4)), bnd_val]
 · rw [br_pos (by simpa using he), if_pos he]
theorem law_PlanSees {N : Nat} (hM : N ≤ 20000) (h : 20 < N) (rows : Rows) (name : ByteArray) (id a b m p t x y : Int) : law09_PlanSees N rows name id a b m p t x y = some true := by
 unfold law09_PlanSees
 rw [show law09_awake N = some true from rfl, bnd_val, br_neg (by rfl), raster_eq hM h, bnd_val]
 by_cases hc : ((!(!badL rows.length && rows.all fun r => !badL r.length)) || decide ((name.size : Int) > 20)) = true
 · rw [br_pos hc]
 ·
  have hc := by simpa using hc
  rw [br_neg (by simpa using hc)]
  obtain ⟨⟨h1, h2⟩, h3⟩ := hc
  have hl := badL_le h1
  have hr : ∀ row ∈ rows, row.length ≤ 14 := fun row hrow => badL_le (h2 row hrow)
  rw [CopyRaster_eq hM (by omega) (fun row hrow => by have := hr row hrow; omega)]
  simp only [bnd_val]
  rw [Sees_eq hM h (by omega) (fun row hrow => by have := hr row hrow; omega) name (by omega), bnd_val, CellErr_eq hM h (by omega), bnd_val]
  by_cases hce : cellE rows name id a b m p t = 0
  ·
   obtain ⟨h5, h6⟩ := cellE_zero hce
   have hras := rasOK_of h5
   have hse : seesE rows name id a b m p t x y = pointE rows x y := by
    unfold seesE; simp only [firstE, hce, ne_eq, not_true_eq_false, if_false]
    split
    · rfl
    · rename_i h7; exact (Classical.not_not.1 h7).symm
   rw [hse]
   by_cases hpe : pointE rows x y = 0
   ·
    rw [if_neg (by simpa using hpe)]
    simp only [jn]
    rw [br_pos (by simpa using hce), PointErr_eq (by omega), bnd_val, br_neg (by simpa using hpe), RefSees_eq h hras name id (point_zero hras h6) (point_zero hras hpe)]
    simp [grd]
   ·
    rw [if_pos hpe]
    simp only [jn]
    rw [br_pos (by simpa using hce), PointErr_eq (by omega), bnd_val, br_pos (by simpa using hpe)]
    simp
  ·
   have hse : seesE rows name id a b m p t x y = cellE rows name id a b m p t := by
    unfold seesE; simp only [firstE]; rw [if_pos hce]
   rw [hse, if_pos hce]
   simp only [jn]
   rw [br_neg (by simpa using hce), br_pos (by simpa using hce)]
   simp
end Go.Sh
