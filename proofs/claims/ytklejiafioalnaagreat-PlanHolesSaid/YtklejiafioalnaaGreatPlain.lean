/-
 Plain words: loops that count up. For every program.
-/
import Derived.Test.YtklejiafioalnaaGreatPlA
import Derived.Test.YtklejiafioalnaaGreatZsS
import Derived.Laws.Strings
set_option linter.all false
namespace Go.PW
theorem w64_succ {k : Nat} (h : k < 4611686018427387904) : w64 ((k : Int) + 1) = ((k + 1 : Nat) : Int) := by rw [w64_id (by omega)]; rfl

theorem rds_up1 {R : Type} (len : Nat) (b : (Int → Option R) → Int → Option R) (F : Nat → Option R)
  (hstep : ∀ k rec, k < len → rec ((k + 1 : Nat) : Int) = F (k + 1) → b rec (k : Int) = F k) (hend : ∀ rec, b rec (len : Int) = F len)
  {N : Nat} (hN : len < N) : rds b N 0 = F 0 := by
 have h := rds_spec (b := b) (fun x => ∃ k : Nat, k ≤ len ∧ x = k) (fun x => len - x.toNat) (fun x => F x.toNat) (fun rec x hI hrec => ?_) N 0 ⟨0, Nat.zero_le _, rfl⟩ (by simp; omega)
 · simpa using h
 ·
  obtain ⟨k, hk, hx⟩ := hI
  subst hx
  by_cases hkl : k < len
  ·
   rw [hstep k rec hkl ?_]
   · simp
   ·
    have := hrec ((k + 1 : Nat) : Int) ⟨k + 1, hkl, rfl⟩ (by simp only [Int.toNat_natCast]; omega)
    simpa using this
  ·
   have : k = len := by omega
   subst this
   rw [hend rec]; simp
end Go.PW

/-
 Plain words: loops that build a list, that fold, that look for a wrong element. For every program.
-/
namespace Go.PW

theorem rds_map {α R : Type} (len : Nat) (f : Nat → α) (b : (Int × List α → Option R) → Int × List α → Option R) (K : List α → Option R)
  (hstep : ∀ k acc rec, k < len → acc.length = k → b rec ((k : Int), acc) = rec (((k + 1 : Nat) : Int), acc ++ [f k])) (hend : ∀ acc rec, acc.length = len → b rec ((len : Int), acc) = K acc)
  {N : Nat} (hN : len < N) : rds b N (0, []) = K ((List.range len).map f) := by
 refine rds_spec (fun s : Int × List α => ∃ k : Nat, k ≤ len ∧ s = ((k : Int), (List.range k).map f)) (fun s => len - s.1.toNat) (fun _ => K ((List.range len).map f)) (fun rec s hI hrec => ?_) N (0, []) ⟨0, Nat.zero_le _, by simp⟩ (by simp; omega)
 obtain ⟨k, hk, rfl⟩ := hI
 by_cases hkl : k < len
 ·
  rw [hstep k _ rec hkl (by simp)]
  refine hrec _ ⟨k + 1, hkl, ?_⟩ (by simp only [Int.toNat_natCast]; omega)
  rw [List.range_succ, List.map_append]; rfl
 ·
  have : k = len := by omega
  subst this
  exact hend _ rec (by simp)
end Go.PW

/-
 What the shallow functions of the planning chapter come to: rasters and cells.
-/
namespace Go.Sh
open Go.PW

def inB (n lo hi : Int) : Bool := (decide (lo ≤ n)) && (decide (n ≤ hi))
theorem inB_true {n lo hi : Int} : inB n lo hi = true ↔ lo ≤ n ∧ n ≤ hi := by simp [inB]
theorem within_eq (N : Nat) (n lo hi : Int) : plan_within N n lo hi = some (inB n lo hi) := rfl
theorem Within_eq (N : Nat) (n lo hi : Int) : base_Within N n lo hi = some (inB n lo hi) := rfl
theorem unless_eq (N : Nat) (b : Bool) (e : Int) : plan_unless N b e = some (if b = true then 0 else e) := by cases b <;> rfl
def firstE : List Int → Int
 | [] => 0
 | x :: l => if x ≠ 0 then x else firstE l
theorem getD_of {α : Type} {l : List α} {k : Nat} (h : k < l.length) (d : α) : l.getD k d = l[k] := by simp [List.getD_eq_getElem?_getD, h]
theorem first_eq {N : Nat} (hM : N ≤ 20000) (l : List Int) (h : l.length < N) : plan_first N l = some (firstE l) := by
 unfold plan_first
 simp only [jn]
 refine (rds_up1 l.length _ (fun k => some (firstE (l.drop k))) (fun k rec hk hr => ?_) (fun rec => ?_) h).trans (by simp)
 ·
  simp only [plan_first.b1]
  rw [br_pos (by simpa using hk), chk_pos (by omega), List.drop_eq_getElem_cons hk, firstE, w64_succ (by omega), hr, Int.toNat_natCast, getD_of hk]
  by_cases h0 : l[k] = 0 <;> simp [br, h0]
 · simp [plan_first.b1, br, firstE]

theorem f2a {x : Bool} (hx : x = false) {e : Int} (he : e ≠ 0) (z : Int) : firstE [if x = true then 0 else e, z] = e := by subst hx; simp [firstE, he]
theorem f2b {x : Bool} (hx : x = true) (e z : Int) : firstE [if x = true then 0 else e, z] = z := by
 subst hx
 simp only [firstE, if_true, ne_eq, not_true_eq_false, if_false]
 split
 · rfl
 · rename_i h; exact (Classical.not_not.1 h).symm

def idxF {α : Type} (p : α → Bool) : Nat → List α → Int
 | _, [] => -1
 | k, x :: l => if p x = true then (k : Int) else idxF p (k + 1) l
theorem IndexFunc_eq {N : Nat} (hM : N ≤ 20000) {f : Int → Option Bool} {p : Int → Bool} (hf : ∀ x, f x = some (p x)) (l : List Int) (h : l.length < N) : slices_IndexFunc_ii N l f = some (idxF p 0 l) := by
 unfold slices_IndexFunc_ii
 simp only [jn]
 refine (rds_up1 l.length _ (fun k => some (idxF p k (l.drop k))) (fun k rec hk hr => ?_) (fun rec => ?_) h).trans (by simp)
 ·
  simp only [slices_IndexFunc_ii.b1]
  rw [br_pos (by simpa using hk), chk_pos (by omega), List.drop_eq_getElem_cons hk, idxF, w64_succ (by omega), hr, Int.toNat_natCast, getD_of hk, hf, bnd_val]
  cases p l[k] <;> simp [br]
 · simp [slices_IndexFunc_ii.b1, br, idxF]

def chBad (f : Bool) (c : Int) : Bool :=
 ((!(((decide (c ≥ (97 : Int))) && (decide (c ≤ (122 : Int)))) || ((decide (c ≥ (65 : Int))) && (decide (c ≤ (90 : Int)))))) && (f || ((c != (45 : Int)) && ((decide (c < (48 : Int))) || (decide (c > (57 : Int)))))))
def nameL : Bool → List Int → Bool
 | _, [] => true
 | f, c :: l => !(chBad f c) && nameL false l
def nameOK (s : ByteArray) : Bool := decide (1 ≤ s.size ∧ s.size ≤ 12) && nameL true (bytesL s)
theorem noText (s : ByteArray) : (s.toList == (⟨#[]⟩ : ByteArray).toList) = decide (s.size = 0) := by
 rw [ByteArray.toList_eq, ByteArray.toList_eq]
 have : s.size = s.data.toList.length := by simp
 rw [this]
 cases s.data.toList <;> simp
theorem isName_eq {N : Nat} (hM : N ≤ 20000) (s : ByteArray) (h : s.size < N) : plan_isName N s = some (nameOK s) := by
 unfold plan_isName
 simp only [jn]
 have hl := bytesL_length s
 refine (rds_up1 (bytesL s).length _ (fun k => some (nameL (decide (k = 0)) ((bytesL s).drop k) && decide (1 ≤ s.size ∧ s.size ≤ 12))) (fun k rec hk hr => ?_) (fun rec => ?_) (by omega)).trans ?_
 ·
  simp only [plan_isName.b1]
  rw [br_pos (by simpa using hk), chk_pos (by omega), List.drop_eq_getElem_cons hk, nameL, w64_succ (by omega), hr]
  simp only [Int.toNat_natCast, getD_of hk]
  have hc : (((!(((decide (((bytesL s)[k]) ≥ (97 : Int))) && (decide (((bytesL s)[k]) ≤ (122 : Int)))) || ((decide (((bytesL s)[k]) ≥ (65 : Int))) && (decide (((bytesL s)[k]) ≤ (90 : Int)))))) && (((k : Int) == (0 : Int)) || ((((bytesL s)[k]) != (45 : Int)) && ((decide (((bytesL s)[k]) < (48 : Int))) || (decide (((bytesL s)[k]) > (57 : Int)))))))) = chBad (decide (k = 0)) (bytesL s)[k] := by
   unfold chBad
   have : ((k : Int) == 0) = decide (k = 0) := by rw [Bool.eq_iff_iff]; simp
   rw [this]
  rw [hc]
  cases chBad (decide (k = 0)) (bytesL s)[k]
  · simp [br]
  · simp [br]
 ·
  simp only [plan_isName.b1, noText]
  rw [br_neg (by simp)]
  simp only [List.drop_length, nameL, Bool.true_and, Option.some.injEq]
  rw [Bool.eq_iff_iff]
  simp only [Bool.and_eq_true, Bool.not_eq_true', decide_eq_false_iff_not, decide_eq_true_eq]
  omega
 · rw [nameOK, Bool.and_comm]; rfl
theorem IsName_eq {N : Nat} (hM : N ≤ 20000) (h12 : 12 < N) (s : ByteArray) : base_IsName N s = some (nameOK s) := by
 unfold base_IsName nameOK
 by_cases h1 : 1 ≤ s.size ∧ s.size ≤ 12
 ·
  rw [br_neg (by simp; omega)]
  simp only [jn]
  have hl := bytesL_length s
  refine (rds_up1 s.size _ (fun k => some (nameL (decide (k = 0)) ((bytesL s).drop k))) (fun k rec hk hr => ?_) (fun rec => ?_) (by omega)).trans (by simp [h1])
  ·
   have hk' : k < (bytesL s).length := by omega
   simp only [base_IsName.b1]
   rw [br_pos (by simpa using hk), chk_pos (by omega), List.drop_eq_getElem_cons hk', nameL, w64_succ (by omega), hr]
   have hb : ((s.data.getD k 0).toNat : Int) = (bytesL s)[k] := by rw [← bytesL_getD s hk, getD_of hk']
   simp only [Int.toNat_natCast, hb]
   have hc : (((!(((decide (((bytesL s)[k]) ≥ (97 : Int))) && (decide (((bytesL s)[k]) ≤ (122 : Int)))) || ((decide (((bytesL s)[k]) ≥ (65 : Int))) && (decide (((bytesL s)[k]) ≤ (90 : Int)))))) && (((k : Int) == (0 : Int)) || ((((bytesL s)[k]) != (45 : Int)) && ((decide (((bytesL s)[k]) < (48 : Int))) || (decide (((bytesL s)[k]) > (57 : Int)))))))) = chBad (decide (k = 0)) (bytesL s)[k] := by
    unfold chBad
    have : ((k : Int) == 0) = decide (k = 0) := by rw [Bool.eq_iff_iff]; simp
    rw [this]
   rw [hc]
   cases chBad (decide (k = 0)) (bytesL s)[k]
   · simp [br]
   · simp [br]
  ·
   simp only [base_IsName.b1]
   rw [br_neg (by simp), ← hl]
   simp [nameL]
 ·
  rw [br_pos (by simp; omega)]
  simp [h1]

abbrev Rows := List (List Int)
def badH (n : Int) : Bool := !(inB n 0 5000)
def rowR (L0 k : Nat) (row : List Int) : Option (Int × Int × Int) :=
 if row.length = 0 ∨ row.length ≠ L0 then some (k, 0, 10) else if 12 < row.length then some (k, 0, 8) else if 0 ≤ idxF badH 0 row then some (k, idxF badH 0 row, 2) else none
def rowsR (L0 : Nat) : Nat → Rows → Int × Int × Int
 | _, [] => (0, 0, 0)
 | k, row :: rest => match rowR L0 k row with
  | some e => e
  | none => rowsR L0 (k + 1) rest
def rasT (rows : Rows) : Int × Int × Int :=
 if rows.length = 0 then (0, 0, 10) else if 12 < rows.length then (0, 0, 8) else rowsR (rows.getD 0 default).length 0 rows
theorem CheckRaster_eq {N : Nat} (hM : N ≤ 20000) (h : 20 < N) {rows : Rows} (hl : rows.length < N) (hr : ∀ row ∈ rows, row.length < N) : plan_CheckRaster N rows = some (rasT rows) := by
 unfold plan_CheckRaster rasT
 simp only [unless_eq, bnd_val]
 rw [first_eq hM _ (by simp; omega), bnd_val]
 by_cases h0 : rows.length = 0
 · rw [if_pos h0]; simp [firstE, h0, br]
 rw [if_neg h0]
 have h0' : rows ≠ [] := by intro e; subst e; exact h0 rfl
 by_cases h1 : 12 < rows.length
 · rw [if_pos h1]; simp [firstE, br, h0', show (0 : Nat) < rows.length by omega, show ¬ (rows.length : Int) ≤ 12 by omega]
 rw [if_neg h1]
 have e : firstE [if decide ((rows.length : Int) > 0) = true then 0 else 10, if decide ((rows.length : Int) ≤ 12) = true then 0 else 8] = 0 := by
  simp [firstE, h0', show (0 : Nat) < rows.length by omega, show (rows.length : Int) ≤ 12 by omega]
 rw [e, br_neg (by rfl)]
 simp only [jn]
 refine (rds_up1 rows.length _ (fun k => some (rowsR (rows.getD 0 default).length k (rows.drop k))) (fun k rec hk hrec => ?_) (fun rec => ?_) hl).trans (by simp)
 ·
  simp only [plan_CheckRaster.b1]
  rw [br_pos (by simpa using hk), chk_pos (by omega), chk_pos (by intro _; omega), List.drop_eq_getElem_cons hk, w64_succ (by omega), hrec]
  simp only [Int.toNat_natCast, getD_of hk, unless_eq, bnd_val]
  rw [first_eq hM _ (by simp; omega), bnd_val, IndexFunc_eq hM (f := fun y0 => plan_CheckRaster_1 N y0) (p := badH) (fun x => rfl) _ (hr _ (List.getElem_mem hk)), bnd_val]
  generalize (rows.getD 0 default).length = L0
  generalize rows[k] = row
  simp only [rowsR, rowR]
  by_cases h2 : row.length = 0 ∨ row.length ≠ L0
  ·
   have e2 : (decide ((row.length : Int) > 0) && ((row.length : Int) == (L0 : Int))) = false := by
    rw [Bool.eq_false_iff]; intro hc
    simp only [Bool.and_eq_true, decide_eq_true_eq, beq_iff_eq] at hc
    omega
   rw [if_pos h2, f2a e2 (by decide), br_pos (by rfl)]
  ·
   rw [if_neg h2]
   have e2 : (decide ((row.length : Int) > 0) && ((row.length : Int) == (L0 : Int))) = true := by
    simp only [Bool.and_eq_true, decide_eq_true_eq, beq_iff_eq]
    omega
   rw [f2b e2]
   by_cases h3 : 12 < row.length
   · rw [if_pos h3, show decide ((row.length : Int) ≤ 12) = false by simp; omega, br_pos (by rfl)]; rfl
   ·
    rw [if_neg h3]
    have e3 : (if decide ((row.length : Int) ≤ 12) = true then (0 : Int) else 8) = 0 := by rw [if_pos (by simp; omega)]
    rw [e3, br_neg (by rfl)]
    by_cases h4 : 0 ≤ idxF badH 0 row
    · rw [if_pos h4, br_pos (by simpa using h4)]
    · rw [if_neg h4, br_neg (by simpa using h4)]
 · simp [plan_CheckRaster.b1, br, rowsR]
theorem RefRaster_eq {N : Nat} (hM : N ≤ 20000) (h : 20 < N) (rows : Rows) : ref09_CheckRaster N rows = some (rasT rows) := by
 unfold ref09_CheckRaster rasT
 by_cases h0 : rows.length = 0
 · rw [if_pos h0, br_pos (by simpa using h0)]
 rw [if_neg h0, br_neg (by simpa using h0)]
 by_cases h1 : 12 < rows.length
 · rw [if_pos h1, br_pos (by simp; omega)]
 rw [if_neg h1, br_neg (by simp; omega)]
 simp only [jn]
 refine (rds_up1 rows.length _ (fun k => some (rowsR (rows.getD 0 default).length k (rows.drop k))) (fun k rec hk hrec => ?_) (fun rec => ?_) (show rows.length < N by omega)).trans (by simp)
 ·
  simp only [ref09_CheckRaster.b1, jn]
  rw [br_pos (by simpa using hk), chk_pos (by omega), chk_pos (by intro _; omega), chk_pos (by intro _; omega), List.drop_eq_getElem_cons hk, w64_succ (by omega)]
  simp only [Int.toNat_natCast, getD_of hk, rowsR, rowR]
  by_cases h2 : rows[k].length = 0 ∨ rows[k].length ≠ (rows.getD 0 default).length
  ·
   rw [if_pos h2, br_pos (by
    simp only [Bool.or_eq_true, beq_iff_eq, bne_iff_ne]
    omega)]
  ·
   rw [if_neg h2, br_neg (by
    rw [Bool.or_eq_false_iff]
    simp only [beq_eq_false_iff_ne, bne_eq_false_iff_eq]
    omega), chk_pos (by omega)]
   by_cases h3 : 12 < rows[k].length
   · rw [if_pos h3, br_pos (by simp; omega)]
   ·
    rw [if_neg h3, br_neg (by simp; omega)]
    refine (rds_up1 rows[k].length _ (fun j => if 0 ≤ idxF badH j (rows[k].drop j) then some ((k : Int), idxF badH j (rows[k].drop j), (2 : Int)) else some (rowsR (rows.getD 0 default).length (k + 1) (rows.drop (k + 1)))) (fun j rec1 hj hrec1 => ?_) (fun rec1 => ?_) (show rows[k].length < N by omega)).trans ?_
    ·
     simp only [ref09_CheckRaster.b2]
     rw [chk_pos (by omega)]
     simp only [Int.toNat_natCast, getD_of hk]
     rw [br_pos (by simpa using hj), chk_pos (by omega), chk_pos (by omega), List.drop_eq_getElem_cons hj, idxF, w64_succ (by omega), hrec1]
     simp only [getD_of hj, Within_eq, bnd_val]
     rw [show badH rows[k][j] = !(inB rows[k][j] 0 5000) from rfl]
     cases inB rows[k][j] 0 5000 <;> simp [br]
    ·
     simp only [ref09_CheckRaster.b2]
     rw [chk_pos (by omega)]
     simp only [Int.toNat_natCast, getD_of hk]
     rw [br_neg (by simp), hrec]
     simp [idxF]
    ·
     simp only [List.drop_zero]
     split <;> rfl
 · simp [ref09_CheckRaster.b1, br, rowsR]

theorem CopyInts_eq (N : Nat) {l : List Int} (h : l.length ≤ 1000000000) : base_CopyInts N l = some l := by
 unfold base_CopyInts
 rw [chk_pos (by simpa using h)]; rfl
theorem CopyLists_eq {N : Nat} (hM : N ≤ 20000) {rows : Rows} (hl : rows.length < N) (hr : ∀ row ∈ rows, row.length ≤ 1000000000) : base_CopyLists N rows = some rows := by
 unfold base_CopyLists
 simp only [jn]
 refine (rds_map rows.length (fun k => rows.getD k default) _ (fun l => some l) (fun k acc rec hk ha => ?_) (fun acc rec ha => ?_) hl).trans ?_
 ·
  simp only [base_CopyLists.b1]
  rw [br_pos (by simpa using hk), chk_pos (by omega), Int.toNat_natCast, getD_of hk, CopyInts_eq N (hr _ (List.getElem_mem hk)), bnd_val, chk_pos (by simp; omega), w64_succ (by omega)]
 · simp [base_CopyLists.b1, br]
 ·
  congr 1
  refine List.ext_getElem (by simp) fun k h1 h2 => ?_
  simp only [List.getElem_map, List.getElem_range, getD_of h2]
theorem CopyRaster_eq {N : Nat} (hM : N ≤ 20000) {rows : Rows} (hl : rows.length < N) (hr : ∀ row ∈ rows, row.length ≤ 1000000000) : ref09_CopyRaster N rows = some rows := by
 unfold ref09_CopyRaster
 rw [CopyLists_eq hM hl hr]; rfl

def ownE (name : ByteArray) (id : Int) : Int := if nameOK name = false then 4 else if inB id 0 1007 = false then 2 else 0
noncomputable def pointE (rows : Rows) (a b : Int) : Int := if (inB a 0 (w64 ((rows.length : Int) - 1)) && inB b 0 (w64 (((rows.getD 0 default).length : Int) - 1))) = true then 0 else 6
def numE (m p t : Int) : Int := if ((inB m 1 200 && inB p (-2000) 1000) && inB t 0 11) = true then 0 else 2
noncomputable def cellE (rows : Rows) (name : ByteArray) (id a b m p t : Int) : Int := firstE [(rasT rows).2.2, ownE name id, pointE rows a b, numE m p t]
theorem ownErr_eq {N : Nat} (hM : N ≤ 20000) (h : 20 < N) (name : ByteArray) (hn : name.size < N) (id a b m p t : Int) : plan_ownErr N name id a b m p t = some (ownE name id) := by
 unfold plan_ownErr plan_isIdentity
 simp only [isName_eq hM name hn, within_eq, unless_eq, bnd_val]
 rw [first_eq hM _ (by simp; omega), bnd_val]
 unfold ownE
 cases nameOK name <;> cases inB id 0 1007 <;> rfl
theorem ItselfErr_eq {N : Nat} (hM : N ≤ 20000) (h : 20 < N) (name : ByteArray) (id a b m p t : Int) : ref09_ItselfErr N name id a b m p t = some (ownE name id) := by
 unfold ref09_ItselfErr ref09_IdentityErr ownE
 simp only [IsName_eq hM (by omega : 12 < N) name, Within_eq, bnd_val]
 cases nameOK name <;> cases inB id 0 1007 <;> rfl
theorem point_chk {rows : Rows} (h : rows.length ≤ 1000000000) {a : Int} (hx : inB a 0 (w64 ((rows.length : Int) - 1)) = true) : 0 ≤ (0 : Int) ∧ (0 : Int) < (rows.length : Int) := by
 rw [w64_id (by omega)] at hx
 have := inB_true.1 hx
 omega
theorem pointErr_eq {N : Nat} {rows : Rows} (h : rows.length ≤ 1000000000) (a b : Int) : plan_pointErr N rows a b = some (pointE rows a b) := by
 unfold plan_pointErr pointE
 simp only [within_eq, bnd_val, unless_eq]
 rw [chk_pos (point_chk h)]
 cases inB a 0 (w64 ((rows.length : Int) - 1)) <;> cases inB b 0 (w64 (((rows.getD 0 default).length : Int) - 1)) <;> rfl
theorem PointErr_eq {N : Nat} {rows : Rows} (h : rows.length ≤ 1000000000) (a b : Int) : ref09_PointErr N rows a b = some (pointE rows a b) := by
 unfold ref09_PointErr pointE
 simp only [Within_eq, bnd_val]
 rw [chk_pos (point_chk h)]
 cases inB a 0 (w64 ((rows.length : Int) - 1)) <;> cases inB b 0 (w64 (((rows.getD 0 default).length : Int) - 1)) <;> rfl
theorem numbersErr_eq {N : Nat} (name : ByteArray) (id a b m p t : Int) : plan_numbersErr N name id a b m p t = some (numE m p t) := by
 unfold plan_numbersErr plan_isLevel numE
 simp only [within_eq, bnd_val, unless_eq]
 cases inB m 1 200 <;> cases inB p (-2000) 1000 <;> cases inB t 0 11 <;> rfl
theorem NumbersErr_eq {N : Nat} (name : ByteArray) (id a b m p t : Int) : ref09_NumbersErr N name id a b m p t = some (numE m p t) := by
 unfold ref09_NumbersErr ref09_isTilt numE
 simp only [Within_eq, bnd_val]
 cases inB m 1 200 <;> cases inB p (-2000) 1000 <;> cases inB t 0 11 <;> rfl
theorem CheckCell_eq {N : Nat} (hM : N ≤ 20000) (h : 20 < N) {rows : Rows} (hl : rows.length < N) (hr : ∀ row ∈ rows, row.length < N) (name : ByteArray) (hn : name.size < N) (id a b m p t : Int) :
  plan_CheckCell N rows name id a b m p t = some (cellE rows name id a b m p t) := by
 unfold plan_CheckCell plan_rasterErr
 rw [CheckRaster_eq hM h hl hr, bnd_val, bnd_val, ownErr_eq hM h name hn, bnd_val, pointErr_eq (by omega), bnd_val, numbersErr_eq, bnd_val, first_eq hM _ (by simp; omega)]
 rfl
theorem CellErr_eq {N : Nat} (hM : N ≤ 20000) (h : 20 < N) {rows : Rows} (hl : rows.length ≤ 1000000000) (name : ByteArray) (id a b m p t : Int) :
  ref09_CellErr N rows name id a b m p t = some (cellE rows name id a b m p t) := by
 unfold ref09_CellErr ref09_RasterErr cellE
 rw [RefRaster_eq hM h, bnd_val, bnd_val, ItselfErr_eq hM h, bnd_val, PointErr_eq hl, bnd_val, NumbersErr_eq, bnd_val]
 simp only [firstE]
 by_cases h1 : (rasT rows).2.2 = 0
 ·
  rw [h1, br_neg (by rfl), if_neg (by simp)]
  by_cases h2 : ownE name id = 0
  ·
   rw [h2, br_neg (by rfl), if_neg (by simp)]
   by_cases h3 : pointE rows a b = 0
   ·
    rw [h3, br_neg (by rfl), if_neg (by simp)]
    by_cases h4 : numE m p t = 0
    · rw [h4]; rfl
    · rw [if_pos h4]
   · rw [br_pos (by simpa using h3), if_pos h3]
  · rw [br_pos (by simpa using h2), if_pos h2]
 · rw [br_pos (by simpa using h1), if_pos h1]

def badL (n : Nat) : Bool := ((decide ((n : Int) > 5)) && (decide ((n : Int) ≤ 12))) || (decide ((n : Int) > 14))
theorem badL_le {n : Nat} (h : badL n = false) : n ≤ 14 := by
 simp only [badL, Bool.or_eq_false_iff, decide_eq_false_iff_not] at h
 omega
theorem raster_eq {N : Nat} (hM : N ≤ 20000) (h : 20 < N) (rows : Rows) : law09_raster N rows = some (!badL rows.length && rows.all fun r => !badL r.length) := by
 unfold law09_raster
 rw [show (((decide ((rows.length : Int) > 5)) && (decide ((rows.length : Int) ≤ 12))) || (decide ((rows.length : Int) > 14))) = badL rows.length from rfl]
 cases hb : badL rows.length with
 | true => rfl
 | false =>
  rw [br_neg rfl]
  have hl := badL_le hb
  simp only [jn]
  refine (rds_up1 rows.length _ (fun k => some ((rows.drop k).all fun r => !badL r.length)) (fun k rec hk hr => ?_) (fun rec => ?_) (show rows.length < N by omega)).trans (by simp)
  ·
   simp only [law09_raster.b1]
   rw [br_pos (by simpa using hk), chk_pos (by omega), chk_pos (by intro _; omega), chk_pos (by intro _; omega), List.drop_eq_getElem_cons hk, w64_succ (by omega), hr]
   simp only [Int.toNat_natCast, getD_of hk, List.all_cons]
   rw [show (((decide ((rows[k].length : Int) > 5)) && (decide ((rows[k].length : Int) ≤ 12))) || (decide ((rows[k].length : Int) > 14))) = badL rows[k].length from rfl]
   cases badL rows[k].length <;> simp [br]
  · simp [law09_raster.b1, br]
end Go.Sh

/-
 Whether a cell sees a point: the same on both sides.
-/
namespace Go.Sh
open Go.PW

theorem rowR_bad {L0 k : Nat} {row : List Int} {e : Int × Int × Int} (h : rowR L0 k row = some e) : e.2.2 ≠ 0 := by
 unfold rowR at h
 split at h
 · cases h; simp
 ·
  split at h
  · cases h; simp
  ·
   split at h
   · cases h; simp
   · cases h
theorem rowsR_zero {L0 : Nat} : ∀ {rows : Rows} {k : Nat}, (rowsR L0 k rows).2.2 = 0 → ∀ row ∈ rows, row.length = L0 ∧ row.length ≤ 12 ∧ row.length ≠ 0
 | [], _, _, row, hr => by simp at hr
 | r :: rest, k, h, row, hr => by
  simp only [rowsR] at h
  cases he : rowR L0 k r with
  | some e => rw [he] at h; exact absurd h (rowR_bad he)
  | none =>
   rw [he] at h
   rcases List.mem_cons.1 hr with e | hr'
   ·
    subst e
    unfold rowR at he
    split at he
    · cases he
    ·
     split at he
     · cases he
     ·
      rename_i h1 h2
      omega
   · exact rowsR_zero h row hr'
theorem rasT_zero {rows : Rows} (h : (rasT rows).2.2 = 0) : rows.length ≠ 0 ∧ rows.length ≤ 12 ∧ ∀ row ∈ rows, row.length = (rows.getD 0 default).length ∧ row.length ≤ 12 ∧ row.length ≠ 0 := by
 unfold rasT at h
 split at h
 · exact absurd h (by decide)
 ·
  split at h
  · exact absurd h (by decide)
  ·
   rename_i h0 h1
   exact ⟨h0, by omega, rowsR_zero h⟩
structure RasOK (rows : Rows) (L : Nat) : Prop where
 n0 : 1 ≤ rows.length
 n12 : rows.length ≤ 12
 l0 : 1 ≤ L
 l12 : L ≤ 12
 at0 : (rows.getD 0 default).length = L
 all : ∀ i : Nat, i < rows.length → (rows.getD i default).length = L
theorem rasOK_of {rows : Rows} (h : (rasT rows).2.2 = 0) : RasOK rows (rows.getD 0 default).length := by
 obtain ⟨h0, h1, h2⟩ := rasT_zero h
 have hz : 0 < rows.length := by omega
 have h3 := h2 (rows.getD 0 default) (by rw [getD_of hz]; exact List.getElem_mem hz)
 exact ⟨by omega, h1, by omega, h3.2.1, rfl, fun i hi => (h2 _ (by rw [getD_of hi]; exact List.getElem_mem hi)).1⟩
def inP (rows : Rows) (L : Nat) (a b : Int) : Prop := (0 ≤ a ∧ a < (rows.length : Int)) ∧ 0 ≤ b ∧ b < (L : Int)
theorem point_zero {rows : Rows} {L : Nat} (hr : RasOK rows L) {a b : Int} (h : pointE rows a b = 0) : inP rows L a b := by
 unfold pointE at h
 have := hr.n0; have := hr.n12; have := hr.l0; have := hr.l12
 rw [hr.at0, w64_id (by omega), w64_id (by omega)] at h
 split at h
 ·
  rename_i hc
  simp only [Bool.and_eq_true, inB_true] at hc
  unfold inP
  omega
 · exact absurd h (by decide)

theorem mul_bd {a b A B : Int} (ha : -A ≤ a ∧ a ≤ A) (hb : -B ≤ b ∧ b ≤ B) : -(A * B) ≤ a * b ∧ a * b ≤ A * B := by
 have h1 : a.natAbs ≤ A.toNat := by omega
 have h2 : b.natAbs ≤ B.toNat := by omega
 have h3 : (a * b).natAbs ≤ A.toNat * B.toNat := by rw [Int.natAbs_mul]; exact Nat.mul_le_mul h1 h2
 have h4 : ((A.toNat * B.toNat : Nat) : Int) = A * B := by
  rw [Int.natCast_mul, Int.toNat_of_nonneg (by omega), Int.toNat_of_nonneg (by omega)]
 omega
theorem floor_eq {a b : Int} (hb : 0 < b) : (if a.tmod b < 0 then a.tdiv b - 1 else a.tdiv b) = a / b := by
 have h1 := Int.mul_tdiv_add_tmod a b
 have h2 := Int.tmod_lt_of_pos a hb
 have h3 := Int.lt_tmod_of_pos a hb
 split
 ·
  rename_i h
  refine ((Int.ediv_emod_unique hb (r := a.tmod b + b) (q := a.tdiv b - 1)).2 ⟨?_, by omega, by omega⟩).1.symm
  rw [Int.mul_sub, Int.mul_one]; omega
 · exact ((Int.ediv_emod_unique hb (r := a.tmod b) (q := a.tdiv b)).2 ⟨by omega, by omega, by omega⟩).1.symm
theorem tdiv_bd {a b : Int} (ha : -1000 ≤ a ∧ a ≤ 1000) : -1000 ≤ a.tdiv b ∧ a.tdiv b ≤ 1000 := by
 have h1 : (a.tdiv b).natAbs ≤ a.natAbs := by rw [Int.natAbs_tdiv]; exact Nat.div_le_self _ _
 omega
theorem fl_br {a b : Int} (hb : 0 < b) (ha : -1000 ≤ a ∧ a ≤ 1000) : br (decide (a.tmod b < (0 : Int))) (some (w64 ((w64 (a.tdiv b)) - (1 : Int)))) (some (w64 (a.tdiv b))) = some (a / b) := by
 have h1 := tdiv_bd (b := b) ha
 rw [w64_id (n := a.tdiv b) (by omega), w64_id (n := a.tdiv b - 1) (by omega), ← floor_eq hb]
 by_cases h : a.tmod b < 0
 · rw [br_pos (by simpa using h), if_pos h]
 · rw [br_neg (by simpa using h), if_neg h]
theorem nearest_eq {N : Nat} {m n : Int} (hn : 1 ≤ n ∧ n ≤ 12) (hm : -144 ≤ m ∧ m ≤ 144) : plan_nearest N m n = some ((2 * m + n) / (2 * n)) := by
 unfold plan_nearest
 rw [w64_id (n := 2 * n) (by omega), w64_id (n := 2 * m) (by omega), w64_id (n := 2 * m + n) (by omega), chk_pos (by omega), chk_pos (by omega), fl_br (by omega) (by omega)]
theorem Floor_eq {N : Nat} {a b : Int} (hb : 0 < b) (ha : -1000 ≤ a ∧ a ≤ 1000) : base_Floor N a b = some (a / b) := by
 unfold base_Floor
 rw [chk_pos (by omega), chk_pos (by omega), fl_br hb ha]

def qF (n k d : Int) : Int := (2 * (k * d) + n) / (2 * n)
theorem qF_bd {n k d : Int} (hk : 1 ≤ k) (hkn : k < n) : (0 ≤ d → 0 ≤ qF n k d ∧ qF n k d ≤ d) ∧ (d ≤ 0 → d ≤ qF n k d ∧ qF n k d ≤ 0) := by
 have hn : 0 < 2 * n := by omega
 have e1 : d * (2 * n) = 2 * (n * d) := by rw [Int.mul_left_comm, Int.mul_comm d n]
 have e2 : (d + 1) * (2 * n) = 2 * (n * d) + 2 * n := by rw [Int.add_mul, Int.one_mul, e1]
 unfold qF
 refine ⟨fun hd => ?_, fun hd => ?_⟩
 ·
  have h1 : 0 ≤ k * d := Int.mul_nonneg (by omega) hd
  have h2 : k * d ≤ n * d := Int.mul_le_mul_of_nonneg_right (by omega) hd
  refine ⟨(Int.le_ediv_iff_mul_le hn).2 (by omega), Int.lt_add_one_iff.1 ((Int.ediv_lt_iff_lt_mul hn).2 (by omega))⟩
 ·
  have h1 : n * d ≤ k * d := Int.mul_le_mul_of_nonpos_right (by omega) hd
  have h2 : k * d ≤ 0 * d := Int.mul_le_mul_of_nonpos_right (by omega) hd
  refine ⟨(Int.le_ediv_iff_mul_le hn).2 (by omega), Int.lt_add_one_iff.1 ((Int.ediv_lt_iff_lt_mul hn).2 (by omega))⟩
theorem qF_in {n k a c H : Int} (hk : 1 ≤ k) (hkn : k < n) (ha : 0 ≤ a ∧ a < H) (hc : 0 ≤ c ∧ c < H) : 0 ≤ c + qF n k (a - c) ∧ c + qF n k (a - c) < H := by
 have h := qF_bd (d := a - c) hk hkn
 by_cases hd : 0 ≤ a - c
 · have := h.1 hd; omega
 · have := h.2 (by omega); omega
noncomputable def szV (n : Int) : Int := if n < w64 (0 - n) then w64 (0 - n) else n
noncomputable def stepV (a0 a1 b0 b1 : Int) : Int := if szV (w64 (a0 - b0)) < szV (w64 (a1 - b1)) then szV (w64 (a1 - b1)) else szV (w64 (a0 - b0))
theorem steps_eq (N : Nat) (a0 a1 b0 b1 : Int) : plan_steps N a0 a1 b0 b1 = some (stepV a0 a1 b0 b1) := rfl
theorem Steps_eq (N : Nat) (a0 a1 b0 b1 : Int) : ref09_Steps N a0 a1 b0 b1 = some (stepV a0 a1 b0 b1) := rfl
theorem szV_bd {n : Int} (h : -12 ≤ n ∧ n ≤ 12) : 0 ≤ szV (w64 n) ∧ szV (w64 n) ≤ 12 := by
 unfold szV
 rw [w64_id (n := n) (by omega), w64_id (n := 0 - n) (by omega)]
 split <;> omega
theorem stepV_bd {a0 a1 b0 b1 : Int} (h0 : -12 ≤ a0 - b0 ∧ a0 - b0 ≤ 12) (h1 : -12 ≤ a1 - b1 ∧ a1 - b1 ≤ 12) : 0 ≤ stepV a0 a1 b0 b1 ∧ stepV a0 a1 b0 b1 ≤ 12 := by
 have := szV_bd h0
 have := szV_bd h1
 unfold stepV
 split <;> omega

def allF (cond : Int → Bool) : Nat → Int → Bool
 | 0, _ => true
 | m + 1, k => !cond k && allF cond m (k + 1)
theorem sees_loop {b : (Int → Option Bool) → Int → Option Bool} {cond : Int → Bool} {n : Int} (hn : n ≤ 12) (hb : ∀ rec k, 1 ≤ k → k < n → b rec k = br (cond k) (some false) (rec (w64 (k + 1)))) (he : ∀ rec k, ¬ k < n → b rec k = some true) {N : Nat} (hN : 20 < N) :
  rds b N 1 = some (allF cond (n - 1).toNat 1) := by
 refine rds_spec (fun k : Int => 1 ≤ k) (fun k => (n - k).toNat) (fun k => some (allF cond (n - k).toNat k)) (fun rec k hk hrec => ?_) N 1 (by decide) (by omega)
 by_cases h : k < n
 ·
  rw [hb rec k hk h, w64_id (by omega), hrec (k + 1) (by omega) (by omega)]
  obtain ⟨m, hm⟩ : ∃ m, (n - k).toNat = m + 1 := ⟨(n - k).toNat - 1, by omega⟩
  have hm2 : (n - (k + 1)).toNat = m := by omega
  rw [hm, hm2, allF]
  cases cond k <;> rfl
 ·
  rw [he rec k h]
  have : (n - k).toNat = 0 := by omega
  rw [this]; rfl
def hgt (rows : Rows) (a b : Int) : Int := (rows.getD a.toNat default).getD b.toNat 0
noncomputable def condS (rows : Rows) (c0 c1 mast a0 a1 n k : Int) : Bool :=
 decide (w64 (n * hgt rows (c0 + qF n k (a0 - c0)) (c1 + qF n k (a1 - c1))) > w64 ((w64 ((w64 (n - k)) * (w64 (hgt rows c0 c1 + mast)))) + (w64 (k * (w64 (hgt rows a0 a1 + (2 : Int)))))))
noncomputable def seesV (rows : Rows) (c0 c1 mast a0 a1 : Int) : Bool := allF (condS rows c0 c1 mast a0 a1 (stepV c0 c1 a0 a1)) (stepV c0 c1 a0 a1 - 1).toNat 1
section
variable {rows : Rows} {L : Nat}
theorem sees1_eq (N : Nat) (hr : RasOK rows L) {a b : Int} (h : inP rows L a b) : plan_sees_1 N a b rows = some (hgt rows a b) := by
 unfold plan_sees_1
 rw [chk_pos h.1, chk_pos (by rw [hr.all a.toNat (by have := h.1; omega)]; exact h.2)]
 rfl
theorem inP_mid (hr : RasOK rows L) {c0 c1 a0 a1 n k : Int} (hc : inP rows L c0 c1) (ha : inP rows L a0 a1) (hk : 1 ≤ k) (hkn : k < n) : inP rows L (c0 + qF n k (a0 - c0)) (c1 + qF n k (a1 - c1)) :=
 ⟨qF_in hk hkn ha.1 hc.1, qF_in hk hkn ha.2 hc.2⟩
theorem sees_eq {N : Nat} (hN : 20 < N) (hr : RasOK rows L) (name : ByteArray) (id : Int) {c0 c1 a0 a1 : Int} (hc : inP rows L c0 c1) (ha : inP rows L a0 a1) (mast p t : Int) :
  plan_sees N rows name id c0 c1 mast p t a0 a1 = some (seesV rows c0 c1 mast a0 a1) := by
 have hb0 : rows.length ≤ 12 := hr.n12
 have hb1 : L ≤ 12 := hr.l12
 have hs := stepV_bd (a0 := c0) (a1 := c1) (b0 := a0) (b1 := a1) (by have := hc.1; have := ha.1; omega) (by have := hc.2; have := ha.2; omega)
 unfold plan_sees seesV
 rw [steps_eq, bnd_val, sees1_eq N hr hc, bnd_val, sees1_eq N hr ha, bnd_val]
 simp only [jn]
 generalize stepV c0 c1 a0 a1 = n at hs ⊢
 refine sees_loop hs.2 (fun rec k hk hkn => ?_) (fun rec k hk => ?_) hN
 ·
  have hm := inP_mid hr hc ha hk hkn
  have d0 := mul_bd (a := k) (b := a0 - c0) (A := 12) (B := 12) (by omega) (by have := hc.1; have := ha.1; omega)
  have d1 := mul_bd (a := k) (b := a1 - c1) (A := 12) (B := 12) (by omega) (by have := hc.2; have := ha.2; omega)
  simp only [plan_sees.b1, jn]
  rw [br_pos (by simpa using hkn), w64_id (n := a0 - c0) (by have := hc.1; have := ha.1; omega), w64_id (n := k * (a0 - c0)) (by omega), nearest_eq (by omega) (by omega), bnd_val,
   w64_id (n := a1 - c1) (by have := hc.2; have := ha.2; omega), w64_id (n := k * (a1 - c1)) (by omega), nearest_eq (by omega) (by omega), bnd_val]
  have e0 : (2 * (k * (a0 - c0)) + n) / (2 * n) = qF n k (a0 - c0) := rfl
  have e1 : (2 * (k * (a1 - c1)) + n) / (2 * n) = qF n k (a1 - c1) := rfl
  rw [e0, e1, w64_id (n := c0 + qF n k (a0 - c0)) (by have := hm.1; omega), w64_id (n := c1 + qF n k (a1 - c1)) (by have := hm.2; omega), sees1_eq N hr hm, bnd_val]
  rfl
 ·
  simp only [plan_sees.b1]
  rw [br_neg (by simpa using hk)]
theorem RefSees_eq {N : Nat} (hN : 20 < N) (hr : RasOK rows L) (name : ByteArray) (id : Int) {c0 c1 a0 a1 : Int} (hc : inP rows L c0 c1) (ha : inP rows L a0 a1) (mast p t : Int) :
  ref09_Sees N rows name id c0 c1 mast p t a0 a1 = some (seesV rows c0 c1 mast a0 a1) := by
 have hb0 : rows.length ≤ 12 := hr.n12
 have hb1 : L ≤ 12 := hr.l12
 have hs := stepV_bd (a0 := c0) (a1 := c1) (b0 := a0) (b1 := a1) (by have := hc.1; have := ha.1; omega) (by have := hc.2; have := ha.2; omega)
 have hlen : ∀ {a b : Int}, inP rows L a b → 0 ≤ b ∧ b < ((rows.getD a.toNat default).length : Int) := fun h => by
  rw [hr.all _ (by have := h.1; omega)]; exact h.2
 unfold ref09_Sees seesV
 rw [Steps_eq, bnd_val, chk_pos hc.1, chk_pos (hlen hc), chk_pos ha.1, chk_pos (hlen ha)]
 simp only [jn]
 generalize stepV c0 c1 a0 a1 = n at hs ⊢
 refine sees_loop hs.2 (fun rec k hk hkn => ?_) (fun rec k hk => ?_) hN
 ·
  have hm := inP_mid hr hc ha hk hkn
  have d0 := mul_bd (a := k) (b := a0 - c0) (A := 12) (B := 12) (by omega) (by have := hc.1; have := ha.1; omega)
  have d1 := mul_bd (a := k) (b := a1 - c1) (A := 12) (B := 12) (by omega) (by have := hc.2; have := ha.2; omega)
  have f0 : (2 * (a0 - c0)) * k = 2 * (k * (a0 - c0)) := by rw [Int.mul_assoc, Int.mul_comm (a0 - c0) k]
  have f1 : (2 * (a1 - c1)) * k = 2 * (k * (a1 - c1)) := by rw [Int.mul_assoc, Int.mul_comm (a1 - c1) k]
  simp only [ref09_Sees.b1]
  rw [br_pos (by simpa using hkn), w64_id (n := a0 - c0) (by have := hc.1; have := ha.1; omega), w64_id (n := 2 * (a0 - c0)) (by have := hc.1; have := ha.1; omega), f0, w64_id (n := 2 * (k * (a0 - c0))) (by omega), w64_id (n := 2 * (k * (a0 - c0)) + n) (by omega), w64_id (n := 2 * n) (by omega),
   Floor_eq (by omega) (by omega), bnd_val, w64_id (n := a1 - c1) (by have := hc.2; have := ha.2; omega), w64_id (n := 2 * (a1 - c1)) (by have := hc.2; have := ha.2; omega), f1, w64_id (n := 2 * (k * (a1 - c1))) (by omega), w64_id (n := 2 * (k * (a1 - c1)) + n) (by omega), Floor_eq (by omega) (by omega), bnd_val]
  have e0 : (2 * (k * (a0 - c0)) + n) / (2 * n) = qF n k (a0 - c0) := rfl
  have e1 : (2 * (k * (a1 - c1)) + n) / (2 * n) = qF n k (a1 - c1) := rfl
  rw [e0, e1, w64_id (n := c0 + qF n k (a0 - c0)) (by have := hm.1; omega), w64_id (n := c1 + qF n k (a1 - c1)) (by have := hm.2; omega), chk_pos hm.1, chk_pos (hlen hm)]
  rfl
 ·
  simp only [ref09_Sees.b1]
  rw [br_neg (by simpa using hk)]
end

theorem cellE_zero {rows : Rows} {name : ByteArray} {id a b m p t : Int} (h : cellE rows name id a b m p t = 0) : (rasT rows).2.2 = 0 ∧ pointE rows a b = 0 := by
 unfold cellE at h
 simp only [firstE] at h
 split at h
 · rename_i h1; exact absurd h h1
 ·
  rename_i h1
  split at h
  · rename_i h2; exact absurd h h2
  ·
   split at h
   · rename_i h3; exact absurd h h3
   ·
    rename_i h3
    exact ⟨Classical.not_not.1 h1, Classical.not_not.1 h3⟩
end Go.Sh

/-
 Plans: their errors, and the levels of their cells. The same on both sides.
-/
namespace Go.Sh
open Go.PW

abbrev CellT := ByteArray × Int × Int × Int × Int × Int × Int
noncomputable def cE (rows : Rows) (c : CellT) : Int := cellE rows c.1 c.2.1 c.2.2.1 c.2.2.2.1 c.2.2.2.2.1 c.2.2.2.2.2.1 c.2.2.2.2.2.2
def sameN (c o : CellT) : Bool := o.1.toList == c.1.toList
noncomputable def cellsE (rows : Rows) : List CellT → List CellT → Int
 | _, [] => 0
 | prev, c :: l => if cE rows c ≠ 0 then cE rows c else if prev.any (sameN c) = true then 5 else cellsE rows (prev ++ [c]) l
def lossE : Int → List (Int × Int) → Int
 | _, [] => 0
 | last, l :: rest => if (inB l.1 0 300 && inB l.2 0 3000) = false then 2 else if l.1 ≤ last then 9 else lossE l.1 rest
def lastE (h s l : Int) : Int := if ((inB h 0 3000 && inB s 0 100) && inB l (-2000) 1000) = true then 0 else 2
noncomputable def planE (rows : Rows) (cells : List CellT) (losses : List (Int × Int)) (h s l : Int) : Int :=
 if (rasT rows).2.2 ≠ 0 then (rasT rows).2.2 else if cells.length = 0 then 10 else if 6 < cells.length then 8
 else if cellsE rows [] cells ≠ 0 then cellsE rows [] cells else if losses.length = 0 then 10 else if 12 < losses.length then 8
 else if lossE (-1) losses ≠ 0 then lossE (-1) losses else lastE h s l

theorem idxF_pos {α : Type} (p : α → Bool) : ∀ (l : List α) (k : Nat), 0 ≤ idxF p k l ↔ l.any p = true
 | [], k => by simp [idxF]
 | x :: l, k => by
  unfold idxF
  by_cases h : p x = true
  · simp [h]
  ·
   simp only [h, Bool.false_eq_true, if_false, List.any_cons, Bool.false_or]
   have := idxF_pos p l (k + 1)
   simpa [h] using this
theorem IndexCell_eq {N : Nat} (hM : N ≤ 20000) {f : ByteArray → Int → Int → Int → Int → Int → Int → Option Bool} {p : CellT → Bool} (hf : ∀ x : CellT, f x.1 x.2.1 x.2.2.1 x.2.2.2.1 x.2.2.2.2.1 x.2.2.2.2.2.1 x.2.2.2.2.2.2 = some (p x)) (l : List CellT) (h : l.length < N) :
  slices_IndexFunc_api_PlanCell_api_PlanCell N l f = some (idxF p 0 l) := by
 unfold slices_IndexFunc_api_PlanCell_api_PlanCell
 simp only [jn]
 refine (rds_up1 l.length _ (fun k => some (idxF p k (l.drop k))) (fun k rec hk hr => ?_) (fun rec => ?_) h).trans (by simp)
 ·
  simp only [slices_IndexFunc_api_PlanCell_api_PlanCell.b1]
  rw [br_pos (by simpa using hk), chk_pos (by omega), List.drop_eq_getElem_cons hk, idxF, w64_succ (by omega), hr, Int.toNat_natCast, getD_of hk, hf, bnd_val]
  cases p l[k] <;> simp [br]
 · simp [slices_IndexFunc_api_PlanCell_api_PlanCell.b1, br, idxF]
theorem IndexLoss_eq {N : Nat} (hM : N ≤ 20000) {f : Int → Int → Option Bool} {p : Int × Int → Bool} (hf : ∀ x : Int × Int, f x.1 x.2 = some (p x)) (l : List (Int × Int)) (h : l.length < N) :
  slices_IndexFunc_api_PlanLoss_api_PlanLoss N l f = some (idxF p 0 l) := by
 unfold slices_IndexFunc_api_PlanLoss_api_PlanLoss
 simp only [jn]
 refine (rds_up1 l.length _ (fun k => some (idxF p k (l.drop k))) (fun k rec hk hr => ?_) (fun rec => ?_) h).trans (by simp)
 ·
  simp only [slices_IndexFunc_api_PlanLoss_api_PlanLoss.b1]
  rw [br_pos (by simpa using hk), chk_pos (by omega), List.drop_eq_getElem_cons hk, idxF, w64_succ (by omega), hr, Int.toNat_natCast, getD_of hk, hf, bnd_val]
  cases p l[k] <;> simp [br]
 · simp [slices_IndexFunc_api_PlanLoss_api_PlanLoss.b1, br, idxF]
theorem ContainsCell_eq {N : Nat} (hM : N ≤ 20000) {f : ByteArray → Int → Int → Int → Int → Int → Int → Option Bool} {p : CellT → Bool} (hf : ∀ x : CellT, f x.1 x.2.1 x.2.2.1 x.2.2.2.1 x.2.2.2.2.1 x.2.2.2.2.2.1 x.2.2.2.2.2.2 = some (p x)) (l : List CellT) (h : l.length < N) :
  slices_ContainsFunc_api_PlanCell_api_PlanCell N l f = some (l.any p) := by
 unfold slices_ContainsFunc_api_PlanCell_api_PlanCell
 rw [IndexCell_eq hM hf l h, bnd_val]
 congr 1
 rw [Bool.eq_iff_iff]
 simp only [ge_iff_le, decide_eq_true_eq]
 exact idxF_pos p l 0
theorem HasText_eq {N : Nat} (hM : N ≤ 20000) (l : List ByteArray) (s : ByteArray) (h : l.length < N) : base_HasText N l s = some (l.any fun x => x.toList == s.toList) := by
 unfold base_HasText
 simp only [jn]
 refine (rds_up1 l.length _ (fun k => some ((l.drop k).any fun x => x.toList == s.toList)) (fun k rec hk hr => ?_) (fun rec => ?_) h).trans (by simp)
 ·
  simp only [base_HasText.b1]
  rw [br_pos (by simpa using hk), chk_pos (by omega), List.drop_eq_getElem_cons hk, List.any_cons, w64_succ (by omega), hr, Int.toNat_natCast, getD_of hk]
  cases l[k].toList == s.toList <;> simp [br]
 · simp [base_HasText.b1, br]

theorem bne_t {x : Int} (h : x ≠ 0) : (x != (0 : Int)) = true := by simpa using h
theorem bne_f {x : Int} (h : ¬ x ≠ 0) : (x != (0 : Int)) = false := by simpa using h
theorem f2 (a : Bool) (e : Int) (he : e ≠ 0) (b : Bool) (g : Int) : firstE [if a = true then 0 else e, if b = true then 0 else g] = if a = false then e else if b = true then 0 else g := by
 cases a with
 | false => rw [f2a rfl he]; rfl
 | true => rw [f2b rfl]; rfl

theorem cnt_eq (n : Nat) (m : Nat) (m' : Int) (hm : m' = m) : firstE [if decide ((n : Int) > 0) = true then 0 else 10, if decide ((n : Int) ≤ m') = true then 0 else 8] = if n = 0 then 10 else if m < n then 8 else 0 := by
 rw [f2 _ _ (by decide)]
 by_cases h : n = 0
 · simp [h]
 ·
  rw [if_neg h, if_neg (by simp; omega)]
  by_cases h2 : m < n
  · rw [if_pos h2, if_neg (by simp; omega)]
  · rw [if_neg h2, if_pos (by simp; omega)]
theorem taken {α : Type} {l : List α} {k : Nat} (h : k < l.length) : l.take k ++ [l[k]] = l.take (k + 1) := List.take_append_getElem h

theorem planErr_eq {N : Nat} (hM : N ≤ 20000) (hN : 20 < N) {rows : Rows} (hl : rows.length < N) (hr : ∀ row ∈ rows, row.length < N) {cells : List CellT} (hc : cells.length < N) (hn : ∀ c ∈ cells, c.1.size < N)
  {losses : List (Int × Int)} (hlo : losses.length < N) (h s l : Int) : plan_planErr N rows cells losses h s l = some (planE rows cells losses h s l) := by
 unfold plan_planErr plan_rasterErr planE
 rw [CheckRaster_eq hM hN hl hr, bnd_val, bnd_val, unless_eq, bnd_val, unless_eq, bnd_val, first_eq hM _ (by simp; omega), bnd_val]
 by_cases h1 : (rasT rows).2.2 ≠ 0
 · rw [show firstE [(rasT rows).2.2, if decide ((cells.length : Int) > 0) = true then 0 else 10, if decide ((cells.length : Int) ≤ 6) = true then 0 else 8] = (rasT rows).2.2 by simp only [firstE]; rw [if_pos h1], br_pos (bne_t h1), if_pos h1]
 ·
  rw [show firstE [(rasT rows).2.2, if decide ((cells.length : Int) > 0) = true then 0 else 10, if decide ((cells.length : Int) ≤ 6) = true then 0 else 8] = firstE [if decide ((cells.length : Int) > 0) = true then 0 else 10, if decide ((cells.length : Int) ≤ 6) = true then 0 else 8] by rw [firstE, if_neg h1], if_neg h1, cnt_eq cells.length 6 6 rfl]
  by_cases h2 : cells.length = 0
  · rw [if_pos h2, if_pos h2, br_pos (by rfl)]
  rw [if_neg h2, if_neg h2]
  by_cases h3 : 6 < cells.length
  · rw [if_pos h3, if_pos h3, br_pos (by rfl)]
  rw [if_neg h3, if_neg h3, br_neg (by rfl)]
  simp only [jn]
  refine (rds_up1 cells.length _ (fun k => if cellsE rows (cells.take k) (cells.drop k) ≠ 0 then some (cellsE rows (cells.take k) (cells.drop k)) else some (if losses.length = 0 then 10 else if 12 < losses.length then 8 else if lossE (-1) losses ≠ 0 then lossE (-1) losses else lastE h s l)) (fun k rec hk hrec => ?_) (fun rec => ?_) hc).trans ?_
  ·
   simp only [plan_planErr.b1]
   rw [br_pos (by simpa using hk), chk_pos (by omega), chk_pos (by omega), Int.toNat_natCast, getD_of hk]
   rw [ContainsCell_eq hM (p := sameN cells[k]) (fun x => rfl) _ (by simp; omega), bnd_val]
   rw [CheckCell_eq hM hN hl hr _ (hn _ (List.getElem_mem hk)), bnd_val, unless_eq, bnd_val, first_eq hM _ (by simp; omega), bnd_val, w64_succ (by omega), hrec]
   rw [List.drop_eq_getElem_cons hk, cellsE, taken hk]
   rw [show cellE rows cells[k].1 cells[k].2.1 cells[k].2.2.1 cells[k].2.2.2.1 cells[k].2.2.2.2.1 cells[k].2.2.2.2.2.1 cells[k].2.2.2.2.2.2 = cE rows cells[k] from rfl]
   by_cases h4 : cE rows cells[k] ≠ 0
   · rw [show firstE [cE rows cells[k], if (!List.any (List.take k cells) (sameN cells[k])) = true then 0 else 5] = cE rows cells[k] by rw [firstE, if_pos h4], br_pos (bne_t h4), if_pos h4, if_pos h4]
   ·
    rw [show firstE [cE rows cells[k], if (!List.any (List.take k cells) (sameN cells[k])) = true then 0 else 5] = if (!List.any (List.take k cells) (sameN cells[k])) = true then 0 else 5 by rw [firstE, if_neg h4, firstE]; split <;> simp_all [firstE], if_neg h4]
    cases hb : List.any (List.take k cells) (sameN cells[k]) with
    | true => simp [br]
    | false => simp [br]
  ·
   simp only [plan_planErr.b1]
   rw [br_neg (by simp)]
   simp only [unless_eq, bnd_val]
   rw [first_eq hM _ (by simp; omega), bnd_val, cnt_eq losses.length 12 12 rfl]
   simp only [List.drop_length, cellsE, ne_eq, not_true_eq_false, if_false]
   by_cases h5 : losses.length = 0
   · rw [if_pos h5, if_pos h5, br_pos (by rfl)]
   rw [if_neg h5, if_neg h5]
   by_cases h6 : 12 < losses.length
   · rw [if_pos h6, if_pos h6, br_pos (by rfl)]
   rw [if_neg h6, if_neg h6, br_neg (by rfl)]
   refine (rds_spec (b := plan_planErr.b2 N losses _) (fun x : Int × Int => ∃ k : Nat, k ≤ losses.length ∧ x.2 = k) (fun x => losses.length - x.2.toNat) (fun x => if lossE x.1 (losses.drop x.2.toNat) ≠ 0 then some (lossE x.1 (losses.drop x.2.toNat)) else some (lastE h s l)) (fun rec x hI hrec => ?_) N ((-1 : Int), (0 : Int)) ⟨0, Nat.zero_le _, rfl⟩ (by simp; omega)).trans ?_
   ·
    obtain ⟨last, t⟩ := x
    obtain ⟨k, hk, ht⟩ := hI
    simp only at ht
    subst ht
    simp only [plan_planErr.b2]
    by_cases hkl : k < losses.length
    ·
     rw [br_pos (by simpa using hkl), chk_pos (by omega)]
     simp only [Int.toNat_natCast, getD_of hkl]
     rw [within_eq, bnd_val, List.drop_eq_getElem_cons hkl, lossE]
     rw [show grd (inB losses[k].1 0 300) false (plan_within N losses[k].2 0 3000) = some (if inB losses[k].1 0 300 = true then inB losses[k].2 0 3000 else false) by rw [within_eq]; unfold grd; split <;> rfl, bnd_val, unless_eq, bnd_val, unless_eq, bnd_val, first_eq hM _ (by simp; omega), bnd_val, f2 _ _ (by decide), w64_succ (by omega), hrec (losses[k].1, ((k + 1 : Nat) : Int)) ⟨k + 1, hkl, rfl⟩ (by simp; omega)]
     rw [show (inB losses[k].1 0 300 && if inB losses[k].1 0 300 = true then inB losses[k].2 0 3000 else false) = (inB losses[k].1 0 300 && inB losses[k].2 0 3000) by cases inB losses[k].1 0 300 <;> rfl]
     cases inB losses[k].1 0 300 && inB losses[k].2 0 3000 with
     | false => simp [br]
     | true =>
      by_cases h7 : losses[k].1 ≤ last
      · simp [br, h7, show ¬ losses[k].1 > last by omega]
      · simp [br, h7, show losses[k].1 > last by omega]
    ·
     have : k = losses.length := by omega
     subst this
     rw [br_neg (by simp)]
     simp only [Int.toNat_natCast, List.drop_length, lossE, ne_eq, not_true_eq_false, if_false, within_eq, bnd_val, plan_isLevel]
     unfold lastE
     cases inB h 0 3000 <;> cases inB s 0 100 <;> cases inB l (-2000) 1000 <;> rfl
   ·
    simp only [Int.toNat_zero, List.drop_zero]
    split <;> rfl
  ·
   simp only [List.take_zero, List.drop_zero]
   split <;> rfl

theorem PlanErr_eq {N : Nat} (hM : N ≤ 20000) (hN : 20 < N) {rows : Rows} (hl : rows.length < N) {cells : List CellT} (hc : cells.length < N)
  {losses : List (Int × Int)} (hlo : losses.length < N) (h s l : Int) : ref09_PlanErr N rows cells losses h s l = some (planE rows cells losses h s l) := by
 unfold ref09_PlanErr ref09_RasterErr planE
 rw [RefRaster_eq hM hN, bnd_val, bnd_val]
 by_cases h1 : (rasT rows).2.2 ≠ 0
 · rw [br_pos (bne_t h1), if_pos h1]
 rw [br_neg (bne_f h1), if_neg h1]
 by_cases h2 : cells.length = 0
 · rw [br_pos (by simp [h2]), if_pos h2]
 rw [br_neg (by simpa using h2), if_neg h2]
 by_cases h3 : 6 < cells.length
 · rw [br_pos (by simp; omega), if_pos h3]
 rw [br_neg (by simp; omega), if_neg h3]
 simp only [jn]
 refine (rds_spec (b := ref09_PlanErr.b1 N rows cells _) (fun x : Int × List ByteArray => ∃ k : Nat, k ≤ cells.length ∧ x = ((k : Int), (cells.take k).map (·.1))) (fun x => cells.length - x.1.toNat) (fun x => if cellsE rows (cells.take x.1.toNat) (cells.drop x.1.toNat) ≠ 0 then some (cellsE rows (cells.take x.1.toNat) (cells.drop x.1.toNat)) else some (if losses.length = 0 then 10 else if 12 < losses.length then 8 else if lossE (-1) losses ≠ 0 then lossE (-1) losses else lastE h s l)) (fun rec x hI hrec => ?_) N ((0 : Int), []) ⟨0, Nat.zero_le _, by simp⟩ (by simp; omega)).trans ?_
 ·
  obtain ⟨k, hk, rfl⟩ := hI
  simp only [ref09_PlanErr.b1, Int.toNat_natCast]
  by_cases hkl : k < cells.length
  ·
   rw [br_pos (by simpa using hkl), chk_pos (by omega), getD_of hkl, CellErr_eq hM hN (by omega), bnd_val]
   rw [show cellE rows cells[k].1 cells[k].2.1 cells[k].2.2.1 cells[k].2.2.2.1 cells[k].2.2.2.2.1 cells[k].2.2.2.2.2.1 cells[k].2.2.2.2.2.2 = cE rows cells[k] from rfl]
   rw [List.drop_eq_getElem_cons hkl, cellsE]
   by_cases h4 : cE rows cells[k] ≠ 0
   · rw [br_pos (bne_t h4), if_pos h4, if_pos h4]
   ·
    rw [br_neg (bne_f h4), if_neg h4, chk_pos (by omega), HasText_eq hM _ _ (by simp; omega), bnd_val]
    rw [show (List.map (·.1) (List.take k cells)).any (fun x => x.toList == cells[k].1.toList) = List.any (List.take k cells) (sameN cells[k]) by rw [List.any_map]; rfl]
    cases hb : List.any (List.take k cells) (sameN cells[k]) with
    | true => simp [br]
    | false =>
     rw [br_neg rfl, chk_pos (by omega), chk_pos (by simp; omega), w64_succ (by omega)]
     rw [hrec (((k + 1 : Nat) : Int), List.map (·.1) (List.take k cells) ++ [cells[k].1]) ⟨k + 1, hkl, by rw [← taken hkl, List.map_append]; rfl⟩ (by simp; omega)]
     simp only [Int.toNat_natCast, Bool.false_eq_true, if_false]
     rw [← taken hkl]
  ·
   have : k = cells.length := by omega
   subst this
   rw [br_neg (by simp)]
   simp only [List.drop_length, cellsE, ne_eq, not_true_eq_false, if_false]
   by_cases h5 : losses.length = 0
   · rw [br_pos (by simp [h5]), if_pos h5]
   rw [br_neg (by simpa using h5), if_neg h5]
   by_cases h6 : 12 < losses.length
   · rw [br_pos (by simp; omega), if_pos h6]
   rw [br_neg (by simp; omega), if_neg h6]
   refine (rds_up1 losses.length _ (fun j => if lossE (if j = 0 then -1 else (losses.getD (j - 1) default).1) (losses.drop j) ≠ 0 then some (lossE (if j = 0 then -1 else (losses.getD (j - 1) default).1) (losses.drop j)) else some (lastE h s l)) (fun j rec1 hj hrec1 => ?_) (fun rec1 => ?_) hlo).trans ?_
   ·
    simp only [ref09_PlanErr.b2]
    rw [br_pos (by simpa using hj), chk_pos (by omega), Int.toNat_natCast, getD_of hj, Within_eq, bnd_val, chk_pos (by intro _; omega)]
    rw [show grd (inB losses[j].1 0 300) false (base_Within N losses[j].2 0 3000) = some (if inB losses[j].1 0 300 = true then inB losses[j].2 0 3000 else false) by rw [Within_eq]; unfold grd; split <;> rfl, bnd_val]
    rw [show ((!inB losses[j].1 0 300) || !(if inB losses[j].1 0 300 = true then inB losses[j].2 0 3000 else false)) = !(inB losses[j].1 0 300 && inB losses[j].2 0 3000) by cases inB losses[j].1 0 300 <;> simp]
    rw [List.drop_eq_getElem_cons hj, lossE]
    cases hb : inB losses[j].1 0 300 && inB losses[j].2 0 3000 with
    | false => simp [br]
    | true =>
     simp only [Bool.not_true, br_false, Bool.true_eq_false, if_false]
     rw [chk_pos (by intro _; omega), chk_pos (by
      intro h0
      have h0 := of_decide_eq_true h0
      rw [w64_id (by omega)]; omega), w64_succ (by omega), hrec1]
     simp only [Nat.add_one_sub_one, Nat.succ_ne_zero, if_false, getD_of hj]
     have hlow : 0 ≤ losses[j].1 := by
      simp only [Bool.and_eq_true, inB_true] at hb; omega
     rw [show (decide ((j : Int) > 0) && decide (losses[j].1 ≤ (losses.getD (w64 ((j : Int) - 1)).toNat default).1)) = decide (losses[j].1 ≤ (if j = 0 then -1 else (losses.getD (j - 1) default).1)) by
      rcases Nat.eq_zero_or_pos j with h0 | h0
      ·
       subst h0
       rw [if_pos rfl, Bool.eq_iff_iff]
       simp only [Bool.and_eq_true, decide_eq_true_eq]
       omega
      · rw [if_neg (by omega), w64_id (n := (j : Int) - 1) (by omega), show ((j : Int) - 1).toNat = j - 1 by omega, decide_eq_true (show (j : Int) > 0 by omega), Bool.true_and]]
     by_cases h7 : losses[j].1 ≤ (if j = 0 then -1 else (losses.getD (j - 1) default).1)
     · rw [if_pos h7, br_pos (decide_eq_true h7)]; simp
     · rw [if_neg h7, br_neg (decide_eq_false h7)]
   ·
    simp only [ref09_PlanErr.b2]
    rw [br_neg (by simp)]
    simp only [List.drop_length, lossE, ne_eq, not_true_eq_false, if_false, Within_eq, bnd_val]
    unfold lastE
    cases inB h 0 3000 <;> cases inB s 0 100 <;> cases inB l (-2000) 1000 <;> rfl
   ·
    simp only [if_true, List.drop_zero]
    split <;> rfl
 ·
  simp only [Int.toNat_zero, List.take_zero, List.drop_zero]
  split <;> rfl
end Go.Sh

/-
 The levels of the cells of a plan, and the server of a point. The same on both sides.
-/
namespace Go.Sh
open Go.PW

abbrev Lv := Int × Bool
structure PlanOK (rows : Rows) (cells : List CellT) (losses : List (Int × Int)) (L : Nat) : Prop where
 ras : RasOK rows L
 c1 : 1 ≤ cells.length
 c6 : cells.length ≤ 6
 l12 : losses.length ≤ 12
 at_ : ∀ c ∈ cells, inP rows L c.2.2.1 c.2.2.2.1
theorem cellsE_zero {rows : Rows} : ∀ {cells prev : List CellT}, cellsE rows prev cells = 0 → ∀ c ∈ cells, cE rows c = 0
 | [], _, _, c, hc => by simp at hc
 | x :: l, prev, h, c, hc => by
  simp only [cellsE] at h
  split at h
  · rename_i h1; exact absurd h h1
  ·
   rename_i h1
   split at h
   · exact absurd h (by decide)
   ·
    rcases List.mem_cons.1 hc with e | hc'
    · subst e; exact Classical.not_not.1 h1
    · exact cellsE_zero h c hc'
theorem planOK_of {rows : Rows} {cells : List CellT} {losses : List (Int × Int)} {h s l : Int} (he : planE rows cells losses h s l = 0) : PlanOK rows cells losses (rows.getD 0 default).length := by
 unfold planE at he
 split at he
 · rename_i h1; exact absurd he h1
 rename_i h1
 split at he
 · exact absurd he (by decide)
 split at he
 · exact absurd he (by decide)
 split at he
 · rename_i h2; exact absurd he h2
 rename_i h2
 split at he
 · exact absurd he (by decide)
 split at he
 · exact absurd he (by decide)
 have hr := rasOK_of (Classical.not_not.1 h1)
 exact ⟨hr, by omega, by omega, by omega, fun c hc => point_zero hr (cellE_zero (cellsE_zero (Classical.not_not.1 h2) c hc)).2⟩

noncomputable def sqV (a0 a1 b0 b1 : Int) : Int := w64 ((w64 ((w64 (a0 - b0)) * (w64 (a0 - b0)))) + (w64 ((w64 (a1 - b1)) * (w64 (a1 - b1)))))
noncomputable def lossP (q : Int) (l : Int × Int) : Bool := decide (l.1 ≥ q)
noncomputable def sumV (losses : List (Int × Int)) (s : Int) (c : CellT) (a b : Int) : Int :=
 w64 ((w64 (c.2.2.2.2.2.1 - (losses.getD (idxF (lossP (sqV c.2.2.1 c.2.2.2.1 a b)) 0 losses).toNat default).2)) - (w64 (s * szV (w64 ((w64 ((12 : Int) - c.2.2.2.2.2.2)) - stepV c.2.2.1 c.2.2.2.1 a b)))))
noncomputable def levV (rows : Rows) (losses : List (Int × Int)) (h s : Int) (c : CellT) (a b : Int) : Lv :=
 if idxF (lossP (sqV c.2.2.1 c.2.2.2.1 a b)) 0 losses < 0 then (0, false)
 else (if seesV rows c.2.2.1 c.2.2.2.1 c.2.2.2.2.1 a b = true then sumV losses s c a b else w64 (sumV losses s c a b - h), true)
noncomputable def lvls (rows : Rows) (losses : List (Int × Int)) (h s : Int) (L : Nat) (c : CellT) : List Lv :=
 (List.range (rows.length * L)).map fun n => levV rows losses h s c ((n / L : Nat) : Int) ((n % L : Nat) : Int)

theorem idxF_lt {α : Type} (p : α → Bool) : ∀ (l : List α) (k : Nat), idxF p k l < ((k + l.length : Nat) : Int)
 | [], k => by simp [idxF]; omega
 | x :: l, k => by
  unfold idxF
  split
  · simp; omega
  ·
   have := idxF_lt p l (k + 1)
   simp only [List.length_cons]
   omega
section
variable {rows : Rows} {L : Nat}
theorem inP_of (hL : 1 ≤ L) {n : Nat} (hn : n < rows.length * L) : inP rows L ((n / L : Nat) : Int) ((n % L : Nat) : Int) := by
 have h1 : n / L < rows.length := Nat.div_lt_of_lt_mul (by rwa [Nat.mul_comm] at hn)
 have h2 : n % L < L := Nat.mod_lt _ (by omega)
 refine ⟨⟨Int.natCast_nonneg _, Int.ofNat_lt.2 h1⟩, Int.natCast_nonneg _, Int.ofNat_lt.2 h2⟩
theorem pts_le (hr : RasOK rows L) : rows.length * L ≤ 144 := Nat.mul_le_mul hr.n12 hr.l12
theorem fieldOf_eq {N : Nat} (hM : N ≤ 20000) (hN : 200 < N) (hr : RasOK rows L) (cells : List CellT) {losses : List (Int × Int)} (hlo : losses.length < N) (h s l : Int) (lv : List (List Lv)) (c : CellT) (hc : inP rows L c.2.2.1 c.2.2.2.1) :
  plan_field_of N rows cells losses h s l (L : Int) lv c.1 c.2.1 c.2.2.1 c.2.2.2.1 c.2.2.2.2.1 c.2.2.2.2.2.1 c.2.2.2.2.2.2 = some (lvls rows losses h s L c) := by
 have hp := pts_le hr
 have hL := hr.l0
 unfold plan_field_of plan_field_points
 simp only [jn, bnd_val]
 rw [w64_id (n := (rows.length : Int) * (L : Int)) (by rw [← Int.natCast_mul]; omega)]
 refine (rds_map (rows.length * L) (fun n => levV rows losses h s c ((n / L : Nat) : Int) ((n % L : Nat) : Int)) _ (fun l => some l) (fun k acc rec hk ha => ?_) (fun acc rec ha => ?_) (by omega)).trans rfl
 ·
  simp only [plan_field_of.b1]
  have hin := inP_of (rows := rows) hL hk
  have h1 : (k : Int).tdiv (L : Int) = ((k / L : Nat) : Int) := (Int.ofNat_tdiv k L).symm
  have h2 : (k : Int).tmod (L : Int) = ((k % L : Nat) : Int) := (Int.ofNat_tmod k L).symm
  rw [br_pos (by rw [decide_eq_true_eq]; rw [← Int.natCast_mul]; omega)]
  unfold plan_field_point
  rw [chk_pos (by omega), chk_pos (by omega), bnd_val, h1, h2, w64_id (n := ((k / L : Nat) : Int)) (by have := Nat.div_le_self k L; generalize k / L = z at *; omega)]
  simp only
  rw [IndexLoss_eq hM (p := lossP (sqV c.2.2.1 c.2.2.2.1 ((k / L : Nat) : Int) ((k % L : Nat) : Int))) (fun x => rfl) _ hlo, bnd_val, w64_succ (by omega)]
  unfold levV
  by_cases h3 : idxF (lossP (sqV c.2.2.1 c.2.2.2.1 ((k / L : Nat) : Int) ((k % L : Nat) : Int))) 0 losses < 0
  · rw [br_pos (by simpa using h3), if_pos h3, chk_pos (by simp; omega)]
  ·
   rw [br_neg (by simpa using h3), if_neg h3, chk_pos (by have := idxF_lt (lossP (sqV c.2.2.1 c.2.2.2.1 ((k / L : Nat) : Int) ((k % L : Nat) : Int))) losses 0; omega)]
   rw [steps_eq, bnd_val, show ∀ n, plan_size N n = some (szV n) from fun n => rfl, bnd_val, sees_eq (by omega) hr c.1 c.2.1 hc hin, bnd_val]
   cases seesV rows c.2.2.1 c.2.2.2.1 c.2.2.2.2.1 ((k / L : Nat) : Int) ((k % L : Nat) : Int) with
   | true => rw [show (!true) = false from rfl, br_neg rfl, chk_pos (by simp; omega)]; rfl
   | false => rw [show (!false) = true from rfl, br_pos rfl, chk_pos (by simp; omega)]; rfl
 ·
  simp only [plan_field_of.b1]
  rw [br_neg (by rw [decide_eq_false_iff_not, ← Int.natCast_mul]; omega)]

noncomputable def lvBody {R : Type} (N : Nat) (rows : Rows) (cells : List CellT) (losses : List (Int × Int)) (h s l : Int) (K_ : List (List Lv) → Option R) (rec : Int × List (List Lv) → Option R) : Int × List (List Lv) → Option R := fun (t25, b41) =>
 br (decide (t25 < (cells.length : Int))) (
 chk (0 ≤ t25 ∧ t25 < (cells.length : Int)) <|
 bnd (plan_field_of N rows cells losses h s l ((rows.getD 0 default).length : Int) b41 ((cells.getD t25.toNat default).1) ((cells.getD t25.toNat default).2.1) ((cells.getD t25.toNat default).2.2.1) ((cells.getD t25.toNat default).2.2.2.1) ((cells.getD t25.toNat default).2.2.2.2.1) ((cells.getD t25.toNat default).2.2.2.2.2.1) ((cells.getD t25.toNat default).2.2.2.2.2.2)) fun x2 =>
 chk (b41.length + ([x2] : List (List Lv)).length ≤ 1000000000) <|
 rec (w64 (t25 + (1 : Int)), (b41 ++ ([x2] : List (List Lv))))) (
 K_ b41)
noncomputable def allLv (rows : Rows) (cells : List CellT) (losses : List (Int × Int)) (h s : Int) (L : Nat) : List (List Lv) := cells.map (lvls rows losses h s L)
theorem lv_loop {R : Type} {N : Nat} (hM : N ≤ 20000) (hN : 200 < N) {cells : List CellT} {losses : List (Int × Int)} (hp : PlanOK rows cells losses L) (h s l : Int) (K : List (List Lv) → Option R) :
  rds (lvBody N rows cells losses h s l K) N ((0 : Int), []) = K (allLv rows cells losses h s L) := by
 have hr := hp.ras
 refine (rds_map cells.length (fun k => lvls rows losses h s L (cells.getD k default)) _ K (fun k acc rec hk ha => ?_) (fun acc rec ha => ?_) (by have := hp.c6; omega)).trans ?_
 ·
  simp only [lvBody]
  have hm := List.getElem_mem hk
  rw [br_pos (by simpa using hk), chk_pos (by omega), Int.toNat_natCast, getD_of hk, hr.at0, fieldOf_eq hM hN hr cells (by have := hp.l12; omega) h s l acc _ (hp.at_ _ hm), bnd_val, chk_pos (by have := hp.c6; simp; omega), w64_succ (by have := hp.c6; omega)]
 · simp [lvBody, br]
 ·
  congr 1
  unfold allLv
  refine List.ext_getElem (by simp) fun k h1 h2 => ?_
  have : k < cells.length := by simpa using h2
  simp only [List.getElem_map, List.getElem_range, getD_of this]
theorem lvls_len (losses : List (Int × Int)) (h s : Int) (c : CellT) : (lvls rows losses h s L c).length = rows.length * L := by simp [lvls]
theorem num_eq (hr : RasOK rows L) {a b : Int} (h : inP rows L a b) : w64 ((w64 (a * (L : Int))) + b) = ((a.toNat * L + b.toNat : Nat) : Int) ∧ a.toNat * L + b.toNat < rows.length * L ∧ (a.toNat * L + b.toNat) / L = a.toNat ∧ (a.toNat * L + b.toNat) % L = b.toNat := by
 obtain ⟨⟨h1, h2⟩, h3, h4⟩ := h
 have hp := pts_le hr
 have hlt : a.toNat * L + b.toNat < rows.length * L := by
  have : (a.toNat + 1) * L ≤ rows.length * L := Nat.mul_le_mul_right _ (by omega)
  rw [Nat.add_mul, Nat.one_mul] at this
  omega
 have he : a * (L : Int) = ((a.toNat * L : Nat) : Int) := by rw [Int.natCast_mul, Int.toNat_of_nonneg h1]
 refine ⟨?_, hlt, ?_, ?_⟩
 · rw [he, w64_id (n := ((a.toNat * L : Nat) : Int)) (by omega), w64_id (by omega)]; omega
 · rw [Nat.add_comm, Nat.add_mul_div_right _ _ (by omega), Nat.div_eq_of_lt (by omega)]; omega
 · rw [Nat.add_comm, Nat.add_mul_mod_self_right, Nat.mod_eq_of_lt (by omega)]
theorem lvls_at (hr : RasOK rows L) (losses : List (Int × Int)) (h s : Int) (c : CellT) {a b : Int} (hp : inP rows L a b) : (lvls rows losses h s L c).getD (a.toNat * L + b.toNat) default = levV rows losses h s c a b := by
 obtain ⟨_, h2, h3, h4⟩ := num_eq hr hp
 rw [getD_of (by rw [lvls_len]; exact h2)]
 simp only [lvls, List.getElem_map, List.getElem_range, h3, h4]
 rw [Int.toNat_of_nonneg hp.1.1, Int.toNat_of_nonneg hp.2.1]

theorem sqV_comm (hr : RasOK rows L) {a0 a1 b0 b1 : Int} (ha : inP rows L a0 a1) (hb : inP rows L b0 b1) : sqV b0 b1 a0 a1 = sqV a0 a1 b0 b1 := by
 have hb0 := hr.n12
 have hb1 := hr.l12
 obtain ⟨⟨_, _⟩, _, _⟩ := ha
 obtain ⟨⟨_, _⟩, _, _⟩ := hb
 unfold sqV
 rw [w64_id (n := b0 - a0) (by omega), w64_id (n := b1 - a1) (by omega), w64_id (n := a0 - b0) (by omega), w64_id (n := a1 - b1) (by omega)]
 rw [show b0 - a0 = -(a0 - b0) by omega, show b1 - a1 = -(a1 - b1) by omega, Int.neg_mul_neg, Int.neg_mul_neg]
theorem RefLevel_eq {N : Nat} (hM : N ≤ 20000) (hN : 20 < N) (hr : RasOK rows L) {cells : List CellT} {losses : List (Int × Int)} (hlo : losses.length < N) (h s l : Int) {i : Nat} (hi : i < cells.length) (hc : inP rows L cells[i].2.2.1 cells[i].2.2.2.1) {a b : Int} (hp : inP rows L a b) :
  ref09_LevelAt N rows cells losses h s l (i : Int) a b = some (levV rows losses h s cells[i] a b) := by
 unfold ref09_LevelAt
 rw [chk_pos (by omega)]
 simp only [jn]
 refine (rds_up1 losses.length _ (fun k => if idxF (lossP (sqV cells[i].2.2.1 cells[i].2.2.2.1 a b)) k (losses.drop k) < 0 then some ((0 : Int), false) else some (if seesV rows cells[i].2.2.1 cells[i].2.2.2.1 cells[i].2.2.2.2.1 a b = true then w64 ((w64 (cells[i].2.2.2.2.2.1 - (losses.getD (idxF (lossP (sqV cells[i].2.2.1 cells[i].2.2.2.1 a b)) k (losses.drop k)).toNat default).2)) - (w64 (s * szV (w64 ((w64 ((12 : Int) - cells[i].2.2.2.2.2.2)) - stepV cells[i].2.2.1 cells[i].2.2.2.1 a b))))) else w64 (w64 ((w64 (cells[i].2.2.2.2.2.1 - (losses.getD (idxF (lossP (sqV cells[i].2.2.1 cells[i].2.2.2.1 a b)) k (losses.drop k)).toNat default).2)) - (w64 (s * szV (w64 ((w64 ((12 : Int) - cells[i].2.2.2.2.2.2)) - stepV cells[i].2.2.1 cells[i].2.2.2.1 a b))))) - h), true)) (fun k rec hk hrec => ?_) (fun rec => ?_) hlo).trans ?_
 ·
  simp only [ref09_LevelAt.b1, Int.toNat_natCast]
  simp only [getD_of hi, getD_of hk]
  rw [br_pos (by simpa using hk), chk_pos (by omega), w64_succ (by omega), hrec, List.drop_eq_getElem_cons hk, idxF]
  rw [show (w64 ((w64 ((w64 (a - cells[i].2.2.1)) * (w64 (a - cells[i].2.2.1)))) + (w64 ((w64 (b - cells[i].2.2.2.1)) * (w64 (b - cells[i].2.2.2.1)))))) = sqV cells[i].2.2.1 cells[i].2.2.2.1 a b from sqV_comm hr hc hp]
  by_cases h1 : losses[k].1 < sqV cells[i].2.2.1 cells[i].2.2.2.1 a b
  ·
   have : lossP (sqV cells[i].2.2.1 cells[i].2.2.2.1 a b) losses[k] = false := by unfold lossP; simp; omega
   rw [br_pos (by simpa using h1), this]; rfl
  ·
   have : lossP (sqV cells[i].2.2.1 cells[i].2.2.2.1 a b) losses[k] = true := by unfold lossP; simp; omega
   rw [br_neg (by simpa using h1), this, if_pos rfl, if_neg (by omega), chk_pos (by omega), Steps_eq, bnd_val, show ∀ n, base_Size N n = some (szV n) from fun n => rfl, bnd_val, RefSees_eq hN hr cells[i].1 cells[i].2.1 hc hp, bnd_val]
   simp only [Int.toNat_natCast, getD_of hk]
   cases seesV rows cells[i].2.2.1 cells[i].2.2.2.1 cells[i].2.2.2.2.1 a b <;> rfl
 ·
  simp only [ref09_LevelAt.b1]
  rw [br_neg (by simp)]
  simp [idxF]
 ·
  simp only [List.drop_zero]
  unfold levV sumV
  split
  · rfl
  · rfl
end

def srvF : Nat → List Lv → Int × Int × Bool → Int × Int × Bool
 | _, [], st => st
 | k, x :: l, st => srvF (k + 1) l (if (x.2 && (!st.2.2 || decide (x.1 > st.2.1))) = true then ((k : Int), x.1, x.2) else st)
theorem srvF_alike : ∀ (l : List Lv) (k : Nat) (c c' m : Int) (b : Bool), (srvF k l (c, m, b)).2 = (srvF k l (c', m, b)).2 ∧ (b = false → (srvF k l (c, m, b)).2.2 = true → (srvF k l (c, m, b)).1 = (srvF k l (c', m, b)).1)
 | [], k, c, c', m, b => by
  refine ⟨rfl, fun hb h => ?_⟩
  simp only [srvF] at h
  rw [hb] at h; cases h
 | x :: l, k, c, c', m, b => by
  simp only [srvF]
  by_cases h : (x.2 && (!b || decide (x.1 > m))) = true
  · simp [h]
  · simp only [h, Bool.false_eq_true, if_false]; exact srvF_alike l (k + 1) c c' m b
theorem server_eq {N : Nat} (hM : N ≤ 20000) {lv : List (List Lv)} (hlv : lv.length < N) {n : Nat} (hn : ∀ l ∈ lv, n < l.length) (rows : Rows) (cells : List CellT) (losses : List (Int × Int)) (h s l w : Int) :
  plan_field_server N rows cells losses h s l w lv (n : Int) = some (srvF 0 (lv.map fun x => x.getD n default) (-1, 0, false)) := by
 unfold plan_field_server
 simp only [jn]
 refine (rds_spec (b := plan_field_server.b1 N lv (n : Int) _) (fun x : Int × Int × Int × Bool => ∃ k : Nat, k ≤ lv.length ∧ x.2.1 = k) (fun x => lv.length - x.2.1.toNat) (fun x => some (srvF x.2.1.toNat ((lv.drop x.2.1.toNat).map fun x => x.getD n default) (x.1, x.2.2.1, x.2.2.2))) (fun rec x hI hrec => ?_) N _ ⟨0, Nat.zero_le _, rfl⟩ (by simp; omega)).trans (by simp)
 obtain ⟨c, t, m, b⟩ := x
 obtain ⟨k, hk, ht⟩ := hI
 simp only at ht
 subst ht
 simp only [plan_field_server.b1, Int.toNat_natCast]
 by_cases hkl : k < lv.length
 ·
  have hm := hn _ (List.getElem_mem hkl)
  simp only [getD_of hkl]
  rw [br_pos (by simpa using hkl), chk_pos (by omega), chk_pos (by omega), chk_pos (by intro _; omega), List.drop_eq_getElem_cons hkl, List.map_cons, srvF, chk_pos (by omega), w64_succ (by omega), hrec (_, ((k + 1 : Nat) : Int), _, _) ⟨k + 1, hkl, rfl⟩ (by simp; omega), hrec (_, ((k + 1 : Nat) : Int), _, _) ⟨k + 1, hkl, rfl⟩ (by simp; omega)]
  simp only [Int.toNat_natCast]
  by_cases hc : ((lv[k].getD n default).2 && (!b || decide ((lv[k].getD n default).1 > m))) = true
  · rw [br_pos hc, if_pos hc]
  · rw [br_neg (by simpa using hc), if_neg hc]
 ·
  have : k = lv.length := by omega
  subst this
  rw [br_neg (by simp)]
  simp [srvF]
def onL (on : List Bool) (f : CellT → Lv) (cells : List CellT) : List Lv := (List.range cells.length).map fun i => ((f (cells.getD i default)).1, on.getD i default && (f (cells.getD i default)).2)
theorem onL_all {on : List Bool} {f : CellT → Lv} {cells : List CellT} (h : ∀ i, i < cells.length → on.getD i default = true) : onL on f cells = cells.map f := by
 refine List.ext_getElem (by simp [onL]) fun k h1 h2 => ?_
 have hk : k < cells.length := by simpa using h2
 simp only [onL, List.getElem_map, List.getElem_range, getD_of hk, h k hk, Bool.true_and]
theorem RefServer_eq {rows : Rows} {L : Nat} {N : Nat} (hM : N ≤ 20000) (hN : 20 < N) {cells : List CellT} {losses : List (Int × Int)} (hp : PlanOK rows cells losses L) (h s l : Int) {on : List Bool} (hon : on.length = cells.length) {a b : Int} (hab : inP rows L a b) :
  ref09_ServerAt N rows cells losses h s l on a b = some (srvF 0 (onL on (fun c => levV rows losses h s c a b) cells) (0, 0, false)) := by
 have h6 := hp.c6
 have h12 := hp.l12
 unfold ref09_ServerAt
 simp only [jn]
 refine (rds_spec (b := ref09_ServerAt.b1 N rows cells losses h s l on a b _) (fun x : Int × Int × Bool × Int => ∃ k : Nat, k ≤ cells.length ∧ x.2.2.2 = k) (fun x => cells.length - x.2.2.2.toNat) (fun x => some (srvF x.2.2.2.toNat ((onL on (fun c => levV rows losses h s c a b) cells).drop x.2.2.2.toNat) (x.1, x.2.1, x.2.2.1))) (fun rec x hI hrec => ?_) N _ ⟨0, Nat.zero_le _, rfl⟩ (by simp; omega)).trans (by simp)
 obtain ⟨c, m, bo, t⟩ := x
 obtain ⟨k, hk, ht⟩ := hI
 simp only at ht
 subst ht
 simp only [ref09_ServerAt.b1, Int.toNat_natCast]
 have hlen : (onL on (fun c => levV rows losses h s c a b) cells).length = cells.length := by simp [onL]
 by_cases hkl : k < cells.length
 ·
  rw [br_pos (by simpa using hkl), RefLevel_eq hM hN hp.ras (by omega) h s l hkl (hp.at_ _ (List.getElem_mem hkl)) hab, bnd_val]
  try simp only
  rw [chk_pos (by omega), List.drop_eq_getElem_cons (by omega), srvF, w64_succ (by omega), hrec (_, _, _, ((k + 1 : Nat) : Int)) ⟨k + 1, hkl, rfl⟩ (by simp; omega), hrec (_, _, _, ((k + 1 : Nat) : Int)) ⟨k + 1, hkl, rfl⟩ (by simp; omega)]
  simp only [Int.toNat_natCast, onL, List.getElem_map, List.getElem_range, getD_of hkl]
  by_cases hc : ((on.getD k default && (levV rows losses h s cells[k] a b).2) && (!bo || decide ((levV rows losses h s cells[k] a b).1 > m))) = true
  ·
   rw [br_pos hc, if_pos hc]
   simp only [Bool.and_eq_true] at hc
   rw [hc.1.1, hc.1.2]; rfl
  · rw [br_neg (by simpa using hc), if_neg hc]
 ·
  have : k = cells.length := by omega
  subst this
  rw [br_neg (by simp), show (onL on (fun c => levV rows losses h s c a b) cells).drop cells.length = [] by rw [List.drop_eq_nil_iff]; omega]
  simp [srvF]
end Go.Sh

/-
 The law of levels: the level of a cell at a point, and the server of the point.
-/
namespace Go.Sh
open Go.PW

structure FewOK (rows : Rows) (cells : List CellT) (losses : List (Int × Int)) : Prop where
 r14 : rows.length ≤ 14
 row14 : ∀ row ∈ rows, row.length ≤ 14
 c8 : cells.length ≤ 8
 l14 : losses.length ≤ 14
 names : ∀ c ∈ cells, c.1.size ≤ 20
noncomputable def fewB (rows : Rows) (cells : List CellT) (losses : List (Int × Int)) : Bool :=
 !(((((!(!badL rows.length && rows.all fun r => !badL r.length)) || ((decide ((cells.length : Int) > (3 : Int))) && (decide ((cells.length : Int) ≤ (6 : Int))))) || (decide ((cells.length : Int) > (8 : Int)))) || ((decide ((losses.length : Int) > (5 : Int))) && (decide ((losses.length : Int) ≤ (12 : Int))))) || (decide ((losses.length : Int) > (14 : Int)))) && cells.all fun c => !decide ((c.1.size : Int) > 20)
theorem Few_eq {N : Nat} (hM : N ≤ 20000) (hN : 20 < N) (rows : Rows) (cells : List CellT) (losses : List (Int × Int)) (h s l : Int) : law09_Few N rows cells losses h s l = some (fewB rows cells losses) := by
 unfold law09_Few fewB
 rw [raster_eq hM hN, bnd_val]
 cases hb : (((((!(!badL rows.length && rows.all fun r => !badL r.length)) || ((decide ((cells.length : Int) > (3 : Int))) && (decide ((cells.length : Int) ≤ (6 : Int))))) || (decide ((cells.length : Int) > (8 : Int)))) || ((decide ((losses.length : Int) > (5 : Int))) && (decide ((losses.length : Int) ≤ (12 : Int))))) || (decide ((losses.length : Int) > (14 : Int)))) with
 | true => rfl
 | false =>
  rw [br_neg rfl]
  have hc : cells.length ≤ 8 := by
   simp only [Bool.or_eq_false_iff, decide_eq_false_iff_not] at hb; omega
  simp only [jn]
  refine (rds_up1 cells.length _ (fun k => some ((cells.drop k).all fun c => !decide ((c.1.size : Int) > 20))) (fun k rec hk hr => ?_) (fun rec => ?_) (show cells.length < N by omega)).trans (by simp)
  ·
   simp only [law09_Few.b1]
   rw [br_pos (by simpa using hk), chk_pos (by omega), List.drop_eq_getElem_cons hk, w64_succ (by omega), hr]
   simp only [Int.toNat_natCast, getD_of hk, List.all_cons]
   cases decide ((cells[k].1.size : Int) > 20) <;> simp [br]
  · simp [law09_Few.b1, br]
theorem fewOK_of {rows : Rows} {cells : List CellT} {losses : List (Int × Int)} (h : fewB rows cells losses = true) : FewOK rows cells losses := by
 unfold fewB at h
 simp only [Bool.and_eq_true, Bool.not_eq_true', Bool.or_eq_false_iff, Bool.not_eq_false', decide_eq_false_iff_not, List.all_eq_true] at h
 obtain ⟨⟨⟨⟨⟨⟨h1, h2⟩, h3⟩, h4⟩, h5⟩, h6⟩, h7⟩ := h
 exact ⟨badL_le h1, fun row hr => badL_le (by simpa using h2 row hr), by omega, by omega, fun c hc => by have := h7 c hc; omega⟩
theorem Copy_eq {N : Nat} (hM : N ≤ 20000) (hN : 20 < N) {rows : Rows} {cells : List CellT} {losses : List (Int × Int)} (hf : FewOK rows cells losses) (h s l : Int) : ref09_Copy N rows cells losses h s l = some (rows, cells, losses, h, s, l) := by
 unfold ref09_Copy
 have := hf.r14
 have := hf.c8
 have := hf.l14
 rw [CopyRaster_eq hM (by omega) (fun row hr => by have := hf.row14 row hr; omega), bnd_val, chk_pos (by omega), chk_pos (by omega)]
section
variable {rows : Rows} {cells : List CellT} {losses : List (Int × Int)} {N : Nat}
theorem fewErr_eq (hM : N ≤ 20000) (hN : 20 < N) (hf : FewOK rows cells losses) (h s l : Int) : plan_planErr N rows cells losses h s l = some (planE rows cells losses h s l) := by
 have := hf.r14
 have := hf.c8
 have := hf.l14
 exact planErr_eq hM hN (by omega) (fun row hr => by have := hf.row14 row hr; omega) (by omega) (fun c hc => by have := hf.names c hc; omega) (by omega) h s l
theorem fewErr_eq' (hM : N ≤ 20000) (hN : 20 < N) (hf : FewOK rows cells losses) (h s l : Int) : ref09_PlanErr N rows cells losses h s l = some (planE rows cells losses h s l) := by
 have := hf.r14
 have := hf.c8
 have := hf.l14
 exact PlanErr_eq hM hN (by omega) (by omega) (by omega) h s l
end

theorem Has_eq {N : Nat} (hM : N ≤ 20000) (l : List Int) (n : Int) (h : l.length < N) : base_Has N l n = some (l.any fun x => x == n) := by
 unfold base_Has
 simp only [jn]
 refine (rds_up1 l.length _ (fun k => some ((l.drop k).any fun x => x == n)) (fun k rec hk hr => ?_) (fun rec => ?_) h).trans (by simp)
 ·
  simp only [base_Has.b1]
  rw [br_pos (by simpa using hk), chk_pos (by omega), List.drop_eq_getElem_cons hk, List.any_cons, w64_succ (by omega), hr, Int.toNat_natCast, getD_of hk]
  cases l[k] == n <;> simp [br]
 · simp [base_Has.b1, br]
def withoutL (n : Nat) (set : List Int) : List Bool := (List.range n).map fun i : Nat => !(set.any fun x => x == (i : Int))
theorem Without_eq {N : Nat} (hM : N ≤ 20000) (rows : Rows) {cells : List CellT} (hc : cells.length < N) (losses : List (Int × Int)) (h s l : Int) {set : List Int} (hs : set.length < N) : ref09_Without N rows cells losses h s l set = some (withoutL cells.length set) := by
 unfold ref09_Without
 simp only [jn]
 refine (rds_map cells.length (fun i : Nat => !(set.any fun x => x == (i : Int))) _ (fun l => some l) (fun k acc rec hk ha => ?_) (fun acc rec ha => ?_) hc).trans rfl
 ·
  simp only [ref09_Without.b1]
  rw [br_pos (by simpa using hk), Has_eq hM _ _ hs, bnd_val, chk_pos (by simp; omega), w64_succ (by omega)]
 · simp [ref09_Without.b1, br]
theorem without_nil (n : Nat) : (withoutL n []).length = n ∧ ∀ i, i < n → (withoutL n []).getD i default = true := by
 refine ⟨by simp [withoutL], fun i hi => ?_⟩
 rw [getD_of (by simpa [withoutL] using hi)]
 simp [withoutL]

section
variable {rows : Rows} {cells : List CellT} {losses : List (Int × Int)} {L : Nat} {N : Nat}
noncomputable def srvA (rows : Rows) (cells : List CellT) (losses : List (Int × Int)) (h s a b : Int) (c0 : Int) : Int × Int × Bool := srvF 0 (cells.map fun c => levV rows losses h s c a b) (c0, 0, false)
theorem srvA_eq {rows : Rows} {cells : List CellT} {losses : List (Int × Int)} {h s a b : Int} :
  (srvA rows cells losses h s a b (-1)).2 = (srvA rows cells losses h s a b 0).2 ∧ ((srvA rows cells losses h s a b (-1)).2.2 = true → (srvA rows cells losses h s a b (-1)).1 = (srvA rows cells losses h s a b 0).1) :=
 ⟨(srvF_alike _ 0 (-1) 0 0 false).1, (srvF_alike _ 0 (-1) 0 0 false).2 rfl⟩
theorem allLv_len (h s : Int) : (allLv rows cells losses h s L).length = cells.length := by simp [allLv]
theorem server_at (hM : N ≤ 20000) (hN : 200 < N) (hp : PlanOK rows cells losses L) (h s l w : Int) {a b : Int} (hab : inP rows L a b) :
  plan_field_server N rows cells losses h s l w (allLv rows cells losses h s L) ((a.toNat * L + b.toNat : Nat) : Int) = some (srvA rows cells losses h s a b (-1)) := by
 have := hp.c6
 rw [server_eq hM (by rw [allLv_len]; omega) (fun x hx => by
  obtain ⟨c, _, rfl⟩ := List.mem_map.1 hx
  rw [lvls_len]; exact (num_eq hp.ras hab).2.1)]
 unfold srvA allLv
 rw [List.map_map]
 congr 2
 refine List.map_congr_left fun c _ => ?_
 exact lvls_at hp.ras losses h s c hab
end
end Go.Sh

/-
 The law of holes: all holes, and how many covered points each cell serves; both together are all points.
-/
namespace Go.Sh
open Go.PW

theorem rds_filter {α R : Type} (T : Nat) (p : Nat → Bool) (f : Nat → α) (b : (Int × List α → Option R) → Int × List α → Option R) (K : List α → Option R)
  (hstep : ∀ k acc rec, k < T → acc.length ≤ k → b rec ((k : Int), acc) = if p k = true then rec (((k + 1 : Nat) : Int), acc ++ [f k]) else rec (((k + 1 : Nat) : Int), acc)) (hend : ∀ acc rec, b rec ((T : Int), acc) = K acc)
  {N : Nat} (hN : T < N) : rds b N (0, []) = K (((List.range T).filter p).map f) := by
 refine rds_spec (fun s : Int × List α => ∃ k : Nat, k ≤ T ∧ s = ((k : Int), ((List.range k).filter p).map f)) (fun s => T - s.1.toNat) (fun _ => K (((List.range T).filter p).map f)) (fun rec s hI hrec => ?_) N (0, []) ⟨0, Nat.zero_le _, by simp⟩ (by simp; omega)
 obtain ⟨k, hk, rfl⟩ := hI
 by_cases hkl : k < T
 ·
  rw [hstep k _ rec hkl (by rw [List.length_map]; exact Nat.le_trans (List.length_filter_le _ _) (by simp))]
  have hs : (List.range (k + 1)).filter p = if p k = true then (List.range k).filter p ++ [k] else (List.range k).filter p := by
   rw [List.range_succ, List.filter_append]
   cases hp : p k <;> simp [hp]
  cases hp : p k with
  | true =>
   rw [if_pos rfl]
   refine hrec _ ⟨k + 1, hkl, ?_⟩ (by simp only [Int.toNat_natCast]; omega)
   rw [hs, hp, if_pos rfl, List.map_append]; rfl
  | false =>
   rw [if_neg (by decide)]
   refine hrec _ ⟨k + 1, hkl, ?_⟩ (by simp only [Int.toNat_natCast]; omega)
   rw [hs, hp, if_neg (by decide)]
 ·
  have : k = T := by omega
  subst this
  rw [hend]

def ptL (L : Nat) (n : Nat) : Int × Int := (((n / L : Nat) : Int), ((n % L : Nat) : Int))
def ptsL (H L : Nat) : List (Int × Int) := (List.range (H * L)).map (ptL L)
section
variable {rows : Rows} {L : Nat}
theorem ptL_at {i k : Nat} (hk : k < L) : ptL L (i * L + k) = ((i : Int), (k : Int)) := by
 unfold ptL
 rw [show (i * L + k) / L = i by rw [Nat.add_comm, Nat.add_mul_div_right _ _ (by omega), Nat.div_eq_of_lt hk, Nat.zero_add], show (i * L + k) % L = k by rw [Nat.add_comm, Nat.add_mul_mod_self_right, Nat.mod_eq_of_lt hk]]
theorem Points_eq {N : Nat} (hM : N ≤ 20000) (hN : 200 < N) (hr : RasOK rows L) : ref09_Points N rows = some (ptsL rows.length L) := by
 have hL := hr.l0
 have h12 := hr.n12
 have h12' := hr.l12
 have h0 := hr.n0
 unfold ref09_Points
 simp only [jn]
 refine rds_spec (fun s : Int × List (Int × Int) => ∃ i : Nat, i ≤ rows.length ∧ s = ((i : Int), (List.range (i * L)).map (ptL L))) (fun s => rows.length - s.1.toNat) (fun _ => some (ptsL rows.length L)) (fun rec s hI hrec => ?_) N (0, []) ⟨0, Nat.zero_le _, by simp⟩ (by simp; omega)
 obtain ⟨i, hi, rfl⟩ := hI
 simp only [ref09_Points.b1, jn]
 by_cases hil : i < rows.length
 ·
  rw [br_pos (by simpa using hil)]
  refine rds_spec (fun s : Int × List (Int × Int) => ∃ k : Nat, k ≤ L ∧ s = ((k : Int), (List.range (i * L + k)).map (ptL L))) (fun s => L - s.1.toNat) (fun _ => some (ptsL rows.length L)) (fun rec1 s1 hI1 hrec1 => ?_) N _ ⟨0, Nat.zero_le _, by simp⟩ (by simp; omega)
  obtain ⟨k, hk, rfl⟩ := hI1
  simp only [ref09_Points.b2]
  rw [chk_pos (by omega), hr.at0]
  have hle : i * L + k ≤ 144 := by
   have : i * L ≤ 11 * 12 := Nat.mul_le_mul (by omega) h12'
   omega
  by_cases hkl : k < L
  ·
   rw [br_pos (by simpa using hkl), chk_pos (by simp; omega), w64_succ (by omega)]
   refine hrec1 _ ⟨k + 1, hkl, ?_⟩ (by simp only [Int.toNat_natCast]; omega)
   rw [show i * L + (k + 1) = i * L + k + 1 by omega, List.range_succ, List.map_append, List.map_singleton, ptL_at hkl]
  ·
   have : k = L := by omega
   subst this
   rw [br_neg (by simp), w64_succ (by omega)]
   refine hrec _ ⟨i + 1, hil, ?_⟩ (by simp only [Int.toNat_natCast]; omega)
   rw [Nat.add_mul, Nat.one_mul]
 ·
  have : i = rows.length := by omega
  subst this
  rw [br_neg (by simp)]; rfl
end

theorem srvF_ix : ∀ (l : List Lv) (k : Nat) (st : Int × Int × Bool), srvF k l st = st ∨ ((k : Int) ≤ (srvF k l st).1 ∧ (srvF k l st).1 < ((k + l.length : Nat) : Int))
 | [], k, st => .inl rfl
 | x :: l, k, st => by
  simp only [srvF]
  by_cases h : (x.2 && (!st.2.2 || decide (x.1 > st.2.1))) = true
  ·
   rw [if_pos h]
   right
   rcases srvF_ix l (k + 1) ((k : Int), x.1, x.2) with e | ⟨h1, h2⟩
   · rw [e]; simp only [List.length_cons]; omega
   · simp only [List.length_cons]; omega
  ·
   rw [if_neg h]
   rcases srvF_ix l (k + 1) st with e | ⟨h1, h2⟩
   · exact .inl e
   · right; simp only [List.length_cons]; omega
section
variable {rows : Rows} {cells : List CellT} {losses : List (Int × Int)} {L : Nat} {N : Nat}
theorem srvA_ix {h s a b : Int} (hs : (srvA rows cells losses h s a b 0).2.2 = true) : 0 ≤ (srvA rows cells losses h s a b 0).1 ∧ (srvA rows cells losses h s a b 0).1 < (cells.length : Int) := by
 unfold srvA at hs ⊢
 rcases srvF_ix (cells.map fun c => levV rows losses h s c a b) 0 (0, 0, false) with e | ⟨h1, h2⟩
 · rw [e] at hs; cases hs
 · rw [List.length_map] at h2; omega
noncomputable def srvN (rows : Rows) (cells : List CellT) (losses : List (Int × Int)) (h s : Int) (L n : Nat) : Int × Int × Bool := srvA rows cells losses h s (ptL L n).1 (ptL L n).2 0
noncomputable def covN (rows : Rows) (cells : List CellT) (losses : List (Int × Int)) (h s l : Int) (L n : Nat) : Bool := (srvN rows cells losses h s L n).2.2 && decide ((srvN rows cells losses h s L n).2.1 ≥ l)
theorem server_n (hM : N ≤ 20000) (hN : 200 < N) (hp : PlanOK rows cells losses L) (h s l w : Int) {n : Nat} (hn : n < rows.length * L) :
  ∃ c, plan_field_server N rows cells losses h s l w (allLv rows cells losses h s L) (n : Int) = some (c, (srvN rows cells losses h s L n).2) ∧ ((srvN rows cells losses h s L n).2.2 = true → c = (srvN rows cells losses h s L n).1) := by
 have hin := inP_of (rows := rows) hp.ras.l0 hn
 have h1 := server_at (N := N) hM hN hp h s l w hin
 simp only [Int.toNat_natCast] at h1
 rw [Nat.div_add_mod' n L] at h1
 obtain ⟨e2, e1⟩ := srvA_eq (rows := rows) (cells := cells) (losses := losses) (h := h) (s := s) (a := ((n / L : Nat) : Int)) (b := ((n % L : Nat) : Int))
 refine ⟨_, h1.trans ?_, fun hs => e1 (e2 ▸ hs)⟩
 rw [show (srvN rows cells losses h s L n).2 = (srvA rows cells losses h s ((n / L : Nat) : Int) ((n % L : Nat) : Int) 0).2 from rfl, ← e2]
theorem lvC (N : Nat) (rows : Rows) (cells : List CellT) (losses : List (Int × Int)) (h s l : Int) (K : List (List Lv) → Option (List (Int × Int) × Int)) : plan_Holes.b1 N rows cells losses h s l K = lvBody N rows cells losses h s l K := rfl
theorem lvD (N : Nat) (rows : Rows) (cells : List CellT) (losses : List (Int × Int)) (h s l : Int) (K : List (List Lv) → Option (List Int × Int)) : plan_CoveredBy.b1 N rows cells losses h s l K = lvBody N rows cells losses h s l K := rfl
theorem points_w (hr : RasOK rows L) (N : Nat) (cells : List CellT) (losses : List (Int × Int)) (h s l : Int) (lv : List (List Lv)) : plan_field_points N rows cells losses h s l (L : Int) lv = some ((rows.length * L : Nat) : Int) := by
 have hp := pts_le hr
 unfold plan_field_points
 rw [← Int.natCast_mul, w64_id (by omega)]
theorem point_w (hr : RasOK rows L) (N : Nat) (cells : List CellT) (losses : List (Int × Int)) (h s l : Int) (lv : List (List Lv)) {n : Nat} (hn : n < rows.length * L) : plan_field_point N rows cells losses h s l (L : Int) lv (n : Int) = some (ptL L n) := by
 have hp := pts_le hr
 have hL := hr.l0
 unfold plan_field_point ptL
 have h1 : (n : Int).tdiv (L : Int) = ((n / L : Nat) : Int) := (Int.ofNat_tdiv n L).symm
 have h2 : (n : Int).tmod (L : Int) = ((n % L : Nat) : Int) := (Int.ofNat_tmod n L).symm
 rw [chk_pos (by omega), chk_pos (by omega), h1, h2, w64_id (n := ((n / L : Nat) : Int)) (by have := Nat.div_le_self n L; generalize n / L = z at *; omega)]
noncomputable def holesL (rows : Rows) (cells : List CellT) (losses : List (Int × Int)) (h s l : Int) (L : Nat) : List (Int × Int) := ((List.range (rows.length * L)).filter fun n => !covN rows cells losses h s l L n).map (ptL L)
theorem Holes_eq (hM : N ≤ 20000) (hN : 200 < N) (hf : FewOK rows cells losses) (h s l : Int) : plan_Holes N rows cells losses h s l = some (if planE rows cells losses h s l ≠ 0 then ([], planE rows cells losses h s l) else (holesL rows cells losses h s l (rows.getD 0 default).length, 0)) := by
 unfold plan_Holes
 rw [fewErr_eq hM (by omega) hf, bnd_val]
 by_cases h1 : planE rows cells losses h s l ≠ 0
 · rw [br_pos (bne_t h1), if_pos h1]
 rw [br_neg (bne_f h1), if_neg h1]
 have hp := planOK_of (Classical.not_not.1 h1)
 have hr := hp.ras
 have := hr.n0
 have hpt := pts_le hr
 rw [chk_pos (by omega)]
 simp only [jn]
 rw [lvC, lv_loop hM hN hp, points_w hr, bnd_val]
 refine (rds_filter (rows.length * (rows.getD 0 default).length) (fun n => !covN rows cells losses h s l (rows.getD 0 default).length n) (ptL (rows.getD 0 default).length) _ (fun b4 => some (b4, (0 : Int))) (fun k acc rec hk ha => ?_) (fun acc rec => ?_) (by omega)).trans rfl
 ·
  simp only [plan_Holes.b2]
  obtain ⟨c, hc, _⟩ := server_n hM hN hp h s l ((rows.getD 0 default).length : Int) hk
  rw [br_pos (decide_eq_true (Int.ofNat_lt.2 hk)), hc, bnd_val, show ∀ a b, plan_field_covers N rows cells losses h s l ((rows.getD 0 default).length : Int) (allLv rows cells losses h s (rows.getD 0 default).length) a b = some (b && decide (a ≥ l)) from fun _ _ => rfl, bnd_val, w64_succ (by omega)]
  rw [show ((srvN rows cells losses h s (rows.getD 0 default).length k).2.2 && decide ((srvN rows cells losses h s (rows.getD 0 default).length k).2.1 ≥ l)) = covN rows cells losses h s l (rows.getD 0 default).length k from rfl]
  cases covN rows cells losses h s l (rows.getD 0 default).length k with
  | true => rfl
  | false => rw [point_w hr _ _ _ _ _ _ _ hk, bnd_val, show (!false) = true from rfl, br_pos rfl, if_pos rfl]; rw [chk_pos (by simp; omega)]
 ·
  simp only [plan_Holes.b2]
  rw [br_neg (by simp)]
theorem ptsL_at {H n : Nat} (hn : n < H * L) : (ptsL H L).getD n default = ptL L n := by
 rw [getD_of (by simpa [ptsL] using hn)]; simp [ptsL]
theorem RefServer_n (hM : N ≤ 20000) (hN : 200 < N) (hp : PlanOK rows cells losses L) (h s l : Int) {n : Nat} (hn : n < rows.length * L) : ref09_ServerAt N rows cells losses h s l (withoutL cells.length []) (ptL L n).1 (ptL L n).2 = some (srvN rows cells losses h s L n) := by
 rw [RefServer_eq (a := (ptL L n).1) (b := (ptL L n).2) hM (by omega) hp h s l (without_nil _).1 (inP_of hp.ras.l0 hn), onL_all (without_nil _).2]; rfl
theorem RefHoles_eq (hM : N ≤ 20000) (hN : 200 < N) (hp : PlanOK rows cells losses L) (h s l : Int) : ref09_Holes N rows cells losses h s l = some (holesL rows cells losses h s l L) := by
 have hr := hp.ras
 have hpt := pts_le hr
 have h6 := hp.c6
 unfold ref09_Holes
 rw [Points_eq hM hN hr, bnd_val]
 simp only [jn]
 have hlen : (ptsL rows.length L).length = rows.length * L := by simp [ptsL]
 refine (rds_filter (rows.length * L) (fun n => !covN rows cells losses h s l L n) (ptL L) _ (fun b4 => some b4) (fun k acc rec hk ha => ?_) (fun acc rec => ?_) (by omega)).trans rfl
 ·
  simp only [ref09_Holes.b1, Int.toNat_natCast]
  rw [br_pos (by rw [hlen]; exact decide_eq_true (Int.ofNat_lt.2 hk)), Without_eq hM rows (by omega) losses h s l (by simp; omega), bnd_val, chk_pos (by omega), ptsL_at hk]
  unfold ref09_covered
  rw [RefServer_n hM hN hp h s l hk, bnd_val, bnd_val, w64_succ (by omega)]
  rw [show ((srvN rows cells losses h s L k).2.2 && decide ((srvN rows cells losses h s L k).2.1 ≥ l)) = covN rows cells losses h s l L k from rfl]
  cases covN rows cells losses h s l L k with
  | true => rfl
  | false => rw [show (!false) = true from rfl, br_pos rfl, if_pos rfl, chk_pos (by omega), chk_pos (by simp; omega)]
 ·
  simp only [ref09_Holes.b1]
  rw [br_neg (by simp [hlen])]

noncomputable def cntN (rows : Rows) (cells : List CellT) (losses : List (Int × Int)) (h s l : Int) (L : Nat) : Nat → List Int
 | 0 => List.replicate cells.length 0
 | n + 1 => if covN rows cells losses h s l L n = true then (cntN rows cells losses h s l L n).set (srvN rows cells losses h s L n).1.toNat ((cntN rows cells losses h s l L n).getD (srvN rows cells losses h s L n).1.toNat 0 + 1) else cntN rows cells losses h s l L n
theorem sum_set : ∀ (l : List Int) (i : Nat), i < l.length → (l.set i (l.getD i 0 + 1)).sum = l.sum + 1
 | [], i, hi => by simp at hi
 | x :: l, 0, _ => by simp; omega
 | x :: l, i + 1, hi => by
  have := sum_set l i (by simpa using hi)
  simp only [List.set_cons_succ, List.sum_cons, List.getD_cons_succ, this]; omega
theorem srvN_ix {h s : Int} {n : Nat} {l : Int} (hc : covN rows cells losses h s l L n = true) : 0 ≤ (srvN rows cells losses h s L n).1 ∧ (srvN rows cells losses h s L n).1 < (cells.length : Int) := by
 simp only [covN, Bool.and_eq_true] at hc
 exact srvA_ix hc.1
theorem cntN_len (h s l : Int) : ∀ n, (cntN rows cells losses h s l L n).length = cells.length
 | 0 => by simp [cntN]
 | n + 1 => by
  simp only [cntN]
  split
  · rw [List.length_set]; exact cntN_len h s l n
  · exact cntN_len h s l n
theorem cntN_le (h s l : Int) : ∀ n j, 0 ≤ (cntN rows cells losses h s l L n).getD j 0 ∧ (cntN rows cells losses h s l L n).getD j 0 ≤ (n : Int)
 | 0, j => by
  simp only [cntN, List.getD_eq_getElem?_getD, List.getElem?_replicate]
  split <;> simp
 | n + 1, j => by
  have h1 := cntN_le h s l n
  simp only [cntN]
  split
  ·
   have hj := h1 j
   have hi := h1 (srvN rows cells losses h s L n).1.toNat
   rw [List.getD_eq_getElem?_getD, List.getElem?_set]
   split
   ·
    split
    · simp only [Option.getD_some]; omega
    · simp; omega
   · rw [← List.getD_eq_getElem?_getD]; omega
  · have hj := h1 j; omega
theorem cntN_sum (h s l : Int) : ∀ n, (cntN rows cells losses h s l L n).sum + (((List.range n).filter fun k => !covN rows cells losses h s l L k).length : Int) = (n : Int)
 | 0 => by simp [cntN]
 | n + 1 => by
  have ih := cntN_sum h s l n
  rw [List.range_succ, List.filter_append]
  simp only [cntN]
  cases hc : covN rows cells losses h s l L n with
  | true =>
   have hix := srvN_ix hc
   rw [if_pos rfl, sum_set _ _ (by rw [cntN_len]; omega)]
   simp only [List.length_append, List.filter_cons, List.filter_nil, hc, Bool.not_true, Bool.false_eq_true, if_false, List.length_nil]
   omega
  | false =>
   rw [if_neg (by decide)]
   simp only [List.length_append, List.filter_cons, List.filter_nil, hc, Bool.not_false, if_true, List.length_singleton]
   omega
theorem cnt_loop {R : Type} (hp : PlanOK rows cells losses L) (h s l : Int) (b : (Int × List Int → Option R) → Int × List Int → Option R) (K : List Int → Option R)
  (hstep : ∀ k acc rec, k < rows.length * L → acc.length = cells.length → b rec ((k : Int), acc) = if covN rows cells losses h s l L k = true then rec (((k + 1 : Nat) : Int), acc.set (srvN rows cells losses h s L k).1.toNat (w64 (acc.getD (srvN rows cells losses h s L k).1.toNat 0 + 1))) else rec (((k + 1 : Nat) : Int), acc))
  (hend : ∀ acc rec, b rec (((rows.length * L : Nat) : Int), acc) = K acc) (hN : 200 < N) : rds b N ((0 : Int), List.replicate cells.length 0) = K (cntN rows cells losses h s l L (rows.length * L)) := by
 have hpt := pts_le hp.ras
 refine rds_spec (fun x : Int × List Int => ∃ k : Nat, k ≤ rows.length * L ∧ x = ((k : Int), cntN rows cells losses h s l L k)) (fun x => rows.length * L - x.1.toNat) (fun _ => K (cntN rows cells losses h s l L (rows.length * L))) (fun rec x hI hrec => ?_) N _ ⟨0, Nat.zero_le _, rfl⟩ (by simp; omega)
 obtain ⟨k, hk, rfl⟩ := hI
 by_cases hkl : k < rows.length * L
 ·
  rw [hstep k _ rec hkl (cntN_len h s l k)]
  have hle := cntN_le (rows := rows) (cells := cells) (losses := losses) (L := L) h s l k (srvN rows cells losses h s L k).1.toNat
  rw [w64_id (by omega)]
  cases hc : covN rows cells losses h s l L k with
  | true =>
   rw [if_pos rfl]
   refine hrec _ ⟨k + 1, hkl, ?_⟩ (by simp only [Int.toNat_natCast]; omega)
   simp only [cntN]; rw [if_pos hc]
  | false =>
   rw [if_neg (by decide)]
   refine hrec _ ⟨k + 1, hkl, ?_⟩ (by simp only [Int.toNat_natCast]; omega)
   simp only [cntN]; rw [if_neg (by rw [hc]; decide)]
 ·
  have : k = rows.length * L := by omega
  subst this
  rw [hend]
theorem CoveredBy_eq (hM : N ≤ 20000) (hN : 200 < N) (hf : FewOK rows cells losses) (h s l : Int) : plan_CoveredBy N rows cells losses h s l = some (if planE rows cells losses h s l ≠ 0 then ([], planE rows cells losses h s l) else (cntN rows cells losses h s l (rows.getD 0 default).length (rows.length * (rows.getD 0 default).length), 0)) := by
 unfold plan_CoveredBy
 rw [fewErr_eq hM (by omega) hf, bnd_val]
 by_cases h1 : planE rows cells losses h s l ≠ 0
 · rw [br_pos (bne_t h1), if_pos h1]
 rw [br_neg (bne_f h1), if_neg h1]
 have hp := planOK_of (Classical.not_not.1 h1)
 have hr := hp.ras
 have := hr.n0
 have h6 := hp.c6
 rw [chk_pos (by omega)]
 simp only [jn]
 rw [lvD, lv_loop hM hN hp, chk_pos (by omega), points_w hr, bnd_val, Int.toNat_natCast]
 refine (cnt_loop hp h s l _ (fun b4 => some (b4, (0 : Int))) (fun k acc rec hk ha => ?_) (fun acc rec => ?_) hN).trans rfl
 ·
  simp only [plan_CoveredBy.b2]
  obtain ⟨c, hc, he⟩ := server_n hM hN hp h s l ((rows.getD 0 default).length : Int) hk
  have hpt := pts_le hr
  rw [br_pos (decide_eq_true (Int.ofNat_lt.2 hk)), hc, bnd_val, show ∀ a b, plan_field_covers N rows cells losses h s l ((rows.getD 0 default).length : Int) (allLv rows cells losses h s (rows.getD 0 default).length) a b = some (b && decide (a ≥ l)) from fun _ _ => rfl, bnd_val, w64_succ (by omega)]
  rw [show ((srvN rows cells losses h s (rows.getD 0 default).length k).2.2 && decide ((srvN rows cells losses h s (rows.getD 0 default).length k).2.1 ≥ l)) = covN rows cells losses h s l (rows.getD 0 default).length k from rfl]
  cases hcv : covN rows cells losses h s l (rows.getD 0 default).length k with
  | false => rfl
  | true =>
   have hix := srvN_ix hcv
   rw [he (by simp only [covN, Bool.and_eq_true] at hcv; exact hcv.1), br_pos rfl, chk_pos (by omega), chk_pos (by omega), if_pos rfl]
 ·
  simp only [plan_CoveredBy.b2]
  rw [br_neg (by simp)]
theorem RefCoveredBy_eq (hM : N ≤ 20000) (hN : 200 < N) (hp : PlanOK rows cells losses L) (h s l : Int) : ref09_CoveredBy N rows cells losses h s l = some (cntN rows cells losses h s l L (rows.length * L)) := by
 have hr := hp.ras
 have hpt := pts_le hr
 have h6 := hp.c6
 unfold ref09_CoveredBy
 rw [chk_pos (by omega), Points_eq hM hN hr, bnd_val, Int.toNat_natCast]
 simp only [jn]
 have hlen : (ptsL rows.length L).length = rows.length * L := by simp [ptsL]
 refine (cnt_loop hp h s l _ (fun b4 => some b4) (fun k acc rec hk ha => ?_) (fun acc rec => ?_) hN).trans rfl
 ·
  simp only [ref09_CoveredBy.b1, Int.toNat_natCast]
  rw [br_pos (by rw [hlen]; exact decide_eq_true (Int.ofNat_lt.2 hk)), Without_eq hM rows (by omega) losses h s l (by simp; omega), bnd_val, chk_pos (by omega), ptsL_at hk, RefServer_n hM hN hp h s l hk, bnd_val, w64_succ (by omega)]
  rw [show ((srvN rows cells losses h s L k).2.2 && decide ((srvN rows cells losses h s L k).2.1 ≥ l)) = covN rows cells losses h s l L k from rfl]
  cases hcv : covN rows cells losses h s l L k with
  | false => rfl
  | true =>
   have hix := srvN_ix hcv
   rw [br_pos rfl, chk_pos (by omega), chk_pos (by omega), if_pos rfl]
 ·
  simp only [ref09_CoveredBy.b1]
  rw [br_neg (by simp [hlen])]

theorem SamePairs_self (hM : N ≤ 20000) {a : List (Int × Int)} (h : a.length < N) : ref09_SamePairs N a a = some true := by
 unfold ref09_SamePairs
 rw [br_neg (by simp)]
 simp only [jn]
 refine (rds_up1 a.length _ (fun _ => some true) (fun k rec hk hr => ?_) (fun rec => ?_) h).trans rfl
 ·
  simp only [ref09_SamePairs.b1]
  rw [br_pos (by simpa using hk), chk_pos (by omega), chk_pos (by omega), br_neg (by simp), w64_succ (by omega), hr]
 · simp [ref09_SamePairs.b1, br]
theorem Ints_self (hM : N ≤ 20000) {a : List Int} (h : a.length < N) : base_Ints N a a = some true := by
 unfold base_Ints
 rw [br_neg (by simp)]
 simp only [jn]
 refine (rds_up1 a.length _ (fun _ => some true) (fun k rec hk hr => ?_) (fun rec => ?_) h).trans rfl
 ·
  simp only [base_Ints.b1]
  rw [br_pos (by simpa using hk), chk_pos (by omega), chk_pos (by omega), br_neg (by simp), w64_succ (by omega), hr]
 · simp [base_Ints.b1, br]
theorem take_sum (l : List Int) : ∀ k (hk : k < l.length), (l.take (k + 1)).sum = (l.take k).sum + l.getD k 0 := fun k hk => by
 rw [← taken hk, List.sum_append, getD_of hk]; simp
theorem sum_bd (l : List Int) (B : Int) (h : ∀ j, 0 ≤ l.getD j 0 ∧ l.getD j 0 ≤ B) : ∀ k, k ≤ l.length → 0 ≤ (l.take k).sum ∧ (l.take k).sum ≤ k * B
 | 0, _ => by simp
 | k + 1, hk => by
  have h1 := sum_bd l B h k (by omega)
  have h2 := h k
  rw [take_sum l k (by omega), show ((k + 1 : Nat) : Int) * B = (k : Int) * B + B by rw [Int.natCast_add, Int.add_mul]; simp]
  omega
theorem law_PlanHoles (hM : N ≤ 20000) (hN : 200 < N) (rows : Rows) (cells : List CellT) (losses : List (Int × Int)) (h s l : Int) : law09_PlanHoles N rows cells losses h s l = some true := by
 unfold law09_PlanHoles
 rw [show law09_awake N = some true from rfl, bnd_val, br_neg (by rfl), Few_eq hM (by omega), bnd_val]
 cases hfew : fewB rows cells losses with
 | false => rfl
 | true =>
  have hf := fewOK_of hfew
  rw [br_neg (by rfl), Copy_eq hM (by omega) hf, bnd_val]
  try simp only
  rw [Holes_eq hM hN hf, bnd_val]
  try simp only [bnd_val]
  rw [CoveredBy_eq hM hN hf, bnd_val]
  try simp only
  rw [fewErr_eq' hM (by omega) hf, bnd_val]
  by_cases h1 : planE rows cells losses h s l ≠ 0
  ·
   rw [br_pos (bne_t h1), if_pos h1, if_pos h1]
   rw [w64_id (by simp)]
   simp
  rw [br_neg (bne_f h1), if_neg h1, if_neg h1]
  have hp := planOK_of (Classical.not_not.1 h1)
  have hr := hp.ras
  have hpt := pts_le hr
  have h6 := hp.c6
  have := hr.n0
  have hcl := cntN_len (rows := rows) (cells := cells) (losses := losses) (L := (rows.getD 0 default).length) h s l (rows.length * (rows.getD 0 default).length)
  have hle := cntN_le (rows := rows) (cells := cells) (losses := losses) (L := (rows.getD 0 default).length) h s l (rows.length * (rows.getD 0 default).length)
  have hsum := cntN_sum (rows := rows) (cells := cells) (losses := losses) (L := (rows.getD 0 default).length) h s l (rows.length * (rows.getD 0 default).length)
  have hhl : (holesL rows cells losses h s l (rows.getD 0 default).length).length = ((List.range (rows.length * (rows.getD 0 default).length)).filter fun k => !covN rows cells losses h s l (rows.getD 0 default).length k).length := by simp [holesL]
  have hhl2 := List.length_filter_le (fun k => !covN rows cells losses h s l (rows.getD 0 default).length k) (List.range (rows.length * (rows.getD 0 default).length))
  rw [List.length_range] at hhl2
  simp only [bne_self_eq_false, Bool.not_false, grd_true]
  rw [RefHoles_eq hM hN hp, bnd_val, SamePairs_self hM (by omega), bnd_val, RefCoveredBy_eq hM hN hp]
  simp only [Bool.not_true, Bool.or_false, Bool.not_false, grd_true, bnd_val]
  rw [Ints_self hM (by omega), bnd_val, br_neg (by rfl)]
  simp only [jn]
  generalize cntN rows cells losses h s l (rows.getD 0 default).length (rows.length * (rows.getD 0 default).length) = c at hcl hle hsum ⊢
  generalize (holesL rows cells losses h s l (rows.getD 0 default).length).length = hn at hhl ⊢
  have hbd := sum_bd c ((rows.length * (rows.getD 0 default).length : Nat) : Int) hle
  refine (rds_spec (b := law09_PlanHoles.b1 N c _) (fun x : Int × Int => ∃ k : Nat, k ≤ c.length ∧ x = ((hn : Int) + (c.take k).sum, (k : Int))) (fun x => c.length - x.2.toNat) (fun _ => some true) (fun rec x hI hrec => ?_) N _ ⟨0, Nat.zero_le _, by simp⟩ (by simp; omega))
  obtain ⟨k, hk, rfl⟩ := hI
  have hb := hbd k hk
  have hkB : (k : Int) * ((rows.length * (rows.getD 0 default).length : Nat) : Int) ≤ 6 * 144 := Int.mul_le_mul (by omega) (by omega) (by omega) (by omega)
  simp only [law09_PlanHoles.b1, Int.toNat_natCast]
  by_cases hkl : k < c.length
  ·
   have hj := hle k
   rw [br_pos (by simpa using hkl), chk_pos (by omega), w64_succ (by omega), w64_id (by omega)]
   refine hrec _ ⟨k + 1, hkl, ?_⟩ (by simp only [Int.toNat_natCast]; omega)
   rw [take_sum c k hkl, Int.add_assoc]
  ·
   have : k = c.length := by omega
   subst this
   rw [br_neg (by simp), chk_pos (by omega), List.take_length, ← Int.natCast_mul, w64_id (by omega)]
   congr 1
   rw [beq_iff_eq]
   omega
end
end Go.Sh
