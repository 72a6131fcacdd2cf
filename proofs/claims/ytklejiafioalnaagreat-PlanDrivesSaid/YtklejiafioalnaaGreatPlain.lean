/-
 Plain words: loops that count up. For every program.
-/
import Derived.Test.YtklejiafioalnaaGreatPlA
import Derived.Test.YtklejiafioalnaaGreatZsS
import Derived.Laws.Strings
set_option linter.all false
namespace Go.PW
theorem k5 {k : Nat} (h : k < 4611686018427387904) : w64 ((k : Int) + 1) = ((k + 1 : Nat) : Int) := by rw [j6 (by omega)]; rfl

theorem u3 {R : Type} (len : Nat) (b : (Int → Option R) → Int → Option R) (F : Nat → Option R)
  (hstep : ∀ k rec, k < len → rec ((k + 1 : Nat) : Int) = F (k + 1) → b rec (k : Int) = F k) (hend : ∀ rec, b rec (len : Int) = F len)
  {N : Nat} (hN : len < N) : rds b N 0 = F 0 := by
 have h := rds_spec (b := b) (fun x => ∃ k : Nat, k ≤ len ∧ x = k) (fun x => len - x.toNat) (fun x => F x.toNat) (fun rec x hI hrec => ?_) N 0 ⟨0, Nat.zero_le _, rfl⟩ (by simp; omega)
 · simpa using h
 ·
  obtain ⟨k, hk, hx⟩ := hI
  subst hx
  by_cases hkl : k < len
  ·
   rw [hstep k rec hkl ?_]
   · simp
   ·
    have := hrec ((k + 1 : Nat) : Int) ⟨k + 1, hkl, rfl⟩ (by simp only [Int.toNat_natCast]; omega)
    simpa using this
  ·
   have : k = len := by omega
   subst this
   rw [hend rec]; simp
end Go.PW

/-
 Plain words: loops that build a list, that fold, that look for a wrong element. For every program.
-/
namespace Go.PW

theorem rds_map {α R : Type} (len : Nat) (f : Nat → α) (b : (Int × List α → Option R) → Int × List α → Option R) (K : List α → Option R)
  (hstep : ∀ k acc rec, k < len → acc.length = k → b rec ((k : Int), acc) = rec (((k + 1 : Nat) : Int), acc ++ [f k])) (hend : ∀ acc rec, acc.length = len → b rec ((len : Int), acc) = K acc)
  {N : Nat} (hN : len < N) : rds b N (0, []) = K ((List.range len).map f) := by
 refine rds_spec (fun s : Int × List α => ∃ k : Nat, k ≤ len ∧ s = ((k : Int), (List.range k).map f)) (fun s => len - s.1.toNat) (fun _ => K ((List.range len).map f)) (fun rec s hI hrec => ?_) N (0, []) ⟨0, Nat.zero_le _, by simp⟩ (by simp; omega)
 obtain ⟨k, hk, rfl⟩ := hI
 by_cases hkl : k < len
 ·
  rw [hstep k _ rec hkl (by simp)]
  refine hrec _ ⟨k + 1, hkl, ?_⟩ (by simp only [Int.toNat_natCast]; omega)
  rw [List.range_succ, List.map_append]; rfl
 ·
  have : k = len := by omega
  subst this
  exact hend _ rec (by simp)
end Go.PW

/-
 What the shallow functions of the planning chapter come to: rasters and cells.
-/
namespace Go.Sh
open Go.PW

def inB (n lo hi : Int) : Bool := (decide (lo ≤ n)) && (decide (n ≤ hi))
theorem inB_true {n lo hi : Int} : inB n lo hi = true ↔ lo ≤ n ∧ n ≤ hi := by simp [inB]
theorem within_eq (N : Nat) (n lo hi : Int) : l1 N n lo hi = some (inB n lo hi) := rfl
theorem Within_eq (N : Nat) (n lo hi : Int) : k4 N n lo hi = some (inB n lo hi) := rfl
theorem n7 (N : Nat) (b : Bool) (e : Int) : g9 N b e = some (if b = true then 0 else e) := by cases b <;> rfl
def l4 : List Int → Int
 | [] => 0
 | x :: l => if x ≠ 0 then x else l4 l
theorem j2 {α : Type} {l : List α} {k : Nat} (h : k < l.length) (d : α) : l.getD k d = l[k] := by simp [List.getD_eq_getElem?_getD, h]
theorem B9 {N : Nat} (hM : N ≤ 20000) (l : List Int) (h : l.length < N) : plan_first N l = some (l4 l) := by
 unfold plan_first
 simp only [jn]
 refine (u3 l.length _ (fun k => some (l4 (l.drop k))) (fun k rec hk hr => ?_) (fun rec => ?_) h).trans (by simp)
 ·
  simp only [B6]
  rw [f9 (by simpa using hk), d7 (by omega), List.drop_eq_getElem_cons hk, l4, k5 (by omega), hr, Int.toNat_natCast, j2 hk]
  by_cases h0 : l[k] = 0 <;> simp [br, h0]
 · simp [B6, br, l4]

theorem f2a {x : Bool} (hx : x = false) {e : Int} (he : e ≠ 0) (z : Int) : l4 [if x = true then 0 else e, z] = e := by subst hx; simp [l4, he]
theorem f2b {x : Bool} (hx : x = true) (e z : Int) : l4 [if x = true then 0 else e, z] = z := by
 subst hx
 simp only [l4, if_true, ne_eq, not_true_eq_false, if_false]
 split
 · rfl
 · rename_i h; exact (Classical.not_not.1 h).symm

def idxF {α : Type} (p : α → Bool) : Nat → List α → Int
 | _, [] => -1
 | k, x :: l => if p x = true then (k : Int) else idxF p (k + 1) l
theorem IndexFunc_eq {N : Nat} (hM : N ≤ 20000) {f : Int → Option Bool} {p : Int → Bool} (hf : ∀ x, f x = some (p x)) (l : List Int) (h : l.length < N) : slices_IndexFunc_ii N l f = some (idxF p 0 l) := by
 unfold slices_IndexFunc_ii
 simp only [jn]
 refine (u3 l.length _ (fun k => some (idxF p k (l.drop k))) (fun k rec hk hr => ?_) (fun rec => ?_) h).trans (by simp)
 ·
  simp only [l7]
  rw [f9 (by simpa using hk), d7 (by omega), List.drop_eq_getElem_cons hk, idxF, k5 (by omega), hr, Int.toNat_natCast, j2 hk, hf, d4]
  cases p l[k] <;> simp [br]
 · simp [l7, br, idxF]

def chBad (f : Bool) (c : Int) : Bool :=
 ((!(((decide (c ≥ (97 : Int))) && (decide (c ≤ (122 : Int)))) || ((decide (c ≥ (65 : Int))) && (decide (c ≤ (90 : Int)))))) && (f || ((c != (45 : Int)) && ((decide (c < (48 : Int))) || (decide (c > (57 : Int)))))))
def nameL : Bool → List Int → Bool
 | _, [] => true
 | f, c :: l => !(chBad f c) && nameL false l
def nameOK (s : ByteArray) : Bool := decide (1 ≤ s.size ∧ s.size ≤ 12) && nameL true (d8 s)
theorem noText (s : ByteArray) : (s.toList == (⟨#[]⟩ : ByteArray).toList) = decide (s.size = 0) := by
 rw [ByteArray.toList_eq, ByteArray.toList_eq]
 have : s.size = s.data.toList.length := by simp
 rw [this]
 cases s.data.toList <;> simp
theorem isName_eq {N : Nat} (hM : N ≤ 20000) (s : ByteArray) (h : s.size < N) : plan_isName N s = some (nameOK s) := by
 unfold plan_isName
 simp only [jn]
 have hl := C0 s
 refine (u3 (d8 s).length _ (fun k => some (nameL (decide (k = 0)) ((d8 s).drop k) && decide (1 ≤ s.size ∧ s.size ≤ 12))) (fun k rec hk hr => ?_) (fun rec => ?_) (by omega)).trans ?_
 ·
  simp only [y8]
  rw [f9 (by simpa using hk), d7 (by omega), List.drop_eq_getElem_cons hk, nameL, k5 (by omega), hr]
  simp only [Int.toNat_natCast, j2 hk]
  have hc : (((!(((decide (((d8 s)[k]) ≥ (97 : Int))) && (decide (((d8 s)[k]) ≤ (122 : Int)))) || ((decide (((d8 s)[k]) ≥ (65 : Int))) && (decide (((d8 s)[k]) ≤ (90 : Int)))))) && (((k : Int) == (0 : Int)) || ((((d8 s)[k]) != (45 : Int)) && ((decide (((d8 s)[k]) < (48 : Int))) || (decide (((d8 s)[k]) > (57 : Int)))))))) = chBad (decide (k = 0)) (d8 s)[k] := by
   unfold chBad
   have : ((k : Int) == 0) = decide (k = 0) := by rw [Bool.eq_iff_iff]; simp
   rw [this]
  rw [hc]
  cases chBad (decide (k = 0)) (d8 s)[k]
  · simp [br]
  · simp [br]
 ·
  simp only [y8, noText]
  rw [i4 (by simp)]
  simp only [List.drop_length, nameL, Bool.true_and, Option.some.injEq]
  rw [Bool.eq_iff_iff]
  simp only [Bool.and_eq_true, Bool.not_eq_true', decide_eq_false_iff_not, decide_eq_true_eq]
  omega
 · rw [nameOK, Bool.and_comm]; rfl
theorem IsName_eq {N : Nat} (hM : N ≤ 20000) (h12 : 12 < N) (s : ByteArray) : base_IsName N s = some (nameOK s) := by
 unfold base_IsName nameOK
 by_cases h1 : 1 ≤ s.size ∧ s.size ≤ 12
 ·
  rw [i4 (by simp; omega)]
  simp only [jn]
  have hl := C0 s
  refine (u3 s.size _ (fun k => some (nameL (decide (k = 0)) ((d8 s).drop k))) (fun k rec hk hr => ?_) (fun rec => ?_) (by omega)).trans (by simp [h1])
  ·
   have hk' : k < (d8 s).length := by omega
   simp only [z3]
   rw [f9 (by simpa using hk), d7 (by omega), List.drop_eq_getElem_cons hk', nameL, k5 (by omega), hr]
   have hb : ((s.data.getD k 0).toNat : Int) = (d8 s)[k] := by rw [← bytesL_getD s hk, j2 hk']
   simp only [Int.toNat_natCast, hb]
   have hc : (((!(((decide (((d8 s)[k]) ≥ (97 : Int))) && (decide (((d8 s)[k]) ≤ (122 : Int)))) || ((decide (((d8 s)[k]) ≥ (65 : Int))) && (decide (((d8 s)[k]) ≤ (90 : Int)))))) && (((k : Int) == (0 : Int)) || ((((d8 s)[k]) != (45 : Int)) && ((decide (((d8 s)[k]) < (48 : Int))) || (decide (((d8 s)[k]) > (57 : Int)))))))) = chBad (decide (k = 0)) (d8 s)[k] := by
    unfold chBad
    have : ((k : Int) == 0) = decide (k = 0) := by rw [Bool.eq_iff_iff]; simp
    rw [this]
   rw [hc]
   cases chBad (decide (k = 0)) (d8 s)[k]
   · simp [br]
   · simp [br]
  ·
   simp only [z3]
   rw [i4 (by simp), ← hl]
   simp [nameL]
 ·
  rw [f9 (by simp; omega)]
  simp [h1]

abbrev Rows := List (List Int)
def badH (n : Int) : Bool := !(inB n 0 5000)
def rowR (L0 k : Nat) (row : List Int) : Option (Int × Int × Int) :=
 if row.length = 0 ∨ row.length ≠ L0 then some (k, 0, 10) else if 12 < row.length then some (k, 0, 8) else if 0 ≤ idxF badH 0 row then some (k, idxF badH 0 row, 2) else none
def rowsR (L0 : Nat) : Nat → Rows → Int × Int × Int
 | _, [] => (0, 0, 0)
 | k, row :: rest => match rowR L0 k row with
  | some e => e
  | none => rowsR L0 (k + 1) rest
def rasT (rows : Rows) : Int × Int × Int :=
 if rows.length = 0 then (0, 0, 10) else if 12 < rows.length then (0, 0, 8) else rowsR (rows.getD 0 default).length 0 rows
theorem CheckRaster_eq {N : Nat} (hM : N ≤ 20000) (h : 20 < N) {rows : Rows} (hl : rows.length < N) (hr : ∀ row ∈ rows, row.length < N) : plan_CheckRaster N rows = some (rasT rows) := by
 unfold plan_CheckRaster rasT
 simp only [n7, d4]
 rw [B9 hM _ (by simp; omega), d4]
 by_cases h0 : rows.length = 0
 · rw [if_pos h0]; simp [l4, h0, br]
 rw [if_neg h0]
 have h0' : rows ≠ [] := by intro e; subst e; exact h0 rfl
 by_cases h1 : 12 < rows.length
 · rw [if_pos h1]; simp [l4, br, h0', show (0 : Nat) < rows.length by omega, show ¬ (rows.length : Int) ≤ 12 by omega]
 rw [if_neg h1]
 have e : l4 [if decide ((rows.length : Int) > 0) = true then 0 else 10, if decide ((rows.length : Int) ≤ 12) = true then 0 else 8] = 0 := by
  simp [l4, h0', show (0 : Nat) < rows.length by omega, show (rows.length : Int) ≤ 12 by omega]
 rw [e, i4 (by rfl)]
 simp only [jn]
 refine (u3 rows.length _ (fun k => some (rowsR (rows.getD 0 default).length k (rows.drop k))) (fun k rec hk hrec => ?_) (fun rec => ?_) hl).trans (by simp)
 ·
  simp only [o5]
  rw [f9 (by simpa using hk), d7 (by omega), d7 (by intro _; omega), List.drop_eq_getElem_cons hk, k5 (by omega), hrec]
  simp only [Int.toNat_natCast, j2 hk, n7, d4]
  rw [B9 hM _ (by simp; omega), d4, IndexFunc_eq hM (f := fun y0 => p4 N y0) (p := badH) (fun x => rfl) _ (hr _ (List.getElem_mem hk)), d4]
  generalize (rows.getD 0 default).length = L0
  generalize rows[k] = row
  simp only [rowsR, rowR]
  by_cases h2 : row.length = 0 ∨ row.length ≠ L0
  ·
   have e2 : (decide ((row.length : Int) > 0) && ((row.length : Int) == (L0 : Int))) = false := by
    rw [Bool.eq_false_iff]; intro hc
    simp only [Bool.and_eq_true, decide_eq_true_eq, beq_iff_eq] at hc
    omega
   rw [if_pos h2, f2a e2 (by decide), f9 (by rfl)]
  ·
   rw [if_neg h2]
   have e2 : (decide ((row.length : Int) > 0) && ((row.length : Int) == (L0 : Int))) = true := by
    simp only [Bool.and_eq_true, decide_eq_true_eq, beq_iff_eq]
    omega
   rw [f2b e2]
   by_cases h3 : 12 < row.length
   · rw [if_pos h3, show decide ((row.length : Int) ≤ 12) = false by simp; omega, f9 (by rfl)]; rfl
   ·
    rw [if_neg h3]
    have e3 : (if decide ((row.length : Int) ≤ 12) = true then (0 : Int) else 8) = 0 := by rw [if_pos (by simp; omega)]
    rw [e3, i4 (by rfl)]
    by_cases h4 : 0 ≤ idxF badH 0 row
    · rw [if_pos h4, f9 (by simpa using h4)]
    · rw [if_neg h4, i4 (by simpa using h4)]
 · simp [o5, br, rowsR]
theorem RefRaster_eq {N : Nat} (hM : N ≤ 20000) (h : 20 < N) (rows : Rows) : ref09_CheckRaster N rows = some (rasT rows) := by
 unfold ref09_CheckRaster rasT
 by_cases h0 : rows.length = 0
 · rw [if_pos h0, f9 (by simpa using h0)]
 rw [if_neg h0, i4 (by simpa using h0)]
 by_cases h1 : 12 < rows.length
 · rw [if_pos h1, f9 (by simp; omega)]
 rw [if_neg h1, i4 (by simp; omega)]
 simp only [jn]
 refine (u3 rows.length _ (fun k => some (rowsR (rows.getD 0 default).length k (rows.drop k))) (fun k rec hk hrec => ?_) (fun rec => ?_) (show rows.length < N by omega)).trans (by simp)
 ·
  simp only [n9, jn]
  rw [f9 (by simpa using hk), d7 (by omega), d7 (by intro _; omega), d7 (by intro _; omega), List.drop_eq_getElem_cons hk, k5 (by omega)]
  simp only [Int.toNat_natCast, j2 hk, rowsR, rowR]
  by_cases h2 : rows[k].length = 0 ∨ rows[k].length ≠ (rows.getD 0 default).length
  ·
   rw [if_pos h2, f9 (by
    simp only [Bool.or_eq_true, beq_iff_eq, bne_iff_ne]
    omega)]
  ·
   rw [if_neg h2, i4 (by
    rw [Bool.or_eq_false_iff]
    simp only [beq_eq_false_iff_ne, bne_eq_false_iff_eq]
    omega), d7 (by omega)]
   by_cases h3 : 12 < rows[k].length
   · rw [if_pos h3, f9 (by simp; omega)]
   ·
    rw [if_neg h3, i4 (by simp; omega)]
    refine (u3 rows[k].length _ (fun j => if 0 ≤ idxF badH j (rows[k].drop j) then some ((k : Int), idxF badH j (rows[k].drop j), (2 : Int)) else some (rowsR (rows.getD 0 default).length (k + 1) (rows.drop (k + 1)))) (fun j rec1 hj hrec1 => ?_) (fun rec1 => ?_) (show rows[k].length < N by omega)).trans ?_
    ·
     simp only [n8]
     rw [d7 (by omega)]
     simp only [Int.toNat_natCast, j2 hk]
     rw [f9 (by simpa using hj), d7 (by omega), d7 (by omega), List.drop_eq_getElem_cons hj, idxF, k5 (by omega), hrec1]
     simp only [j2 hj, Within_eq, d4]
     rw [show badH rows[k][j] = !(inB rows[k][j] 0 5000) from rfl]
     cases inB rows[k][j] 0 5000 <;> simp [br]
    ·
     simp only [n8]
     rw [d7 (by omega)]
     simp only [Int.toNat_natCast, j2 hk]
     rw [i4 (by simp), hrec]
     simp [idxF]
    ·
     simp only [List.drop_zero]
     split <;> rfl
 · simp [n9, br, rowsR]

theorem CopyInts_eq (N : Nat) {l : List Int} (h : l.length ≤ 1000000000) : C2 N l = some l := by
 unfold C2
 rw [d7 (by simpa using h)]; rfl
theorem CopyLists_eq {N : Nat} (hM : N ≤ 20000) {rows : Rows} (hl : rows.length < N) (hr : ∀ row ∈ rows, row.length ≤ 1000000000) : base_CopyLists N rows = some rows := by
 unfold base_CopyLists
 simp only [jn]
 refine (rds_map rows.length (fun k => rows.getD k default) _ (fun l => some l) (fun k acc rec hk ha => ?_) (fun acc rec ha => ?_) hl).trans ?_
 ·
  simp only [r4]
  rw [f9 (by simpa using hk), d7 (by omega), Int.toNat_natCast, j2 hk, CopyInts_eq N (hr _ (List.getElem_mem hk)), d4, d7 (by simp; omega), k5 (by omega)]
 · simp [r4, br]
 ·
  congr 1
  refine List.ext_getElem (by simp) fun k h1 h2 => ?_
  simp only [List.getElem_map, List.getElem_range, j2 h2]
theorem CopyRaster_eq {N : Nat} (hM : N ≤ 20000) {rows : Rows} (hl : rows.length < N) (hr : ∀ row ∈ rows, row.length ≤ 1000000000) : t1 N rows = some rows := by
 unfold t1
 rw [CopyLists_eq hM hl hr]; rfl

def ownE (name : ByteArray) (id : Int) : Int := if nameOK name = false then 4 else if inB id 0 1007 = false then 2 else 0
noncomputable def pointE (rows : Rows) (a b : Int) : Int := if (inB a 0 (w64 ((rows.length : Int) - 1)) && inB b 0 (w64 (((rows.getD 0 default).length : Int) - 1))) = true then 0 else 6
def numE (m p t : Int) : Int := if ((inB m 1 200 && inB p (-2000) 1000) && inB t 0 11) = true then 0 else 2
noncomputable def cellE (rows : Rows) (name : ByteArray) (id a b m p t : Int) : Int := l4 [(rasT rows).2.2, ownE name id, pointE rows a b, numE m p t]
theorem ownErr_eq {N : Nat} (hM : N ≤ 20000) (h : 20 < N) (name : ByteArray) (hn : name.size < N) (id a b m p t : Int) : plan_ownErr N name id a b m p t = some (ownE name id) := by
 unfold plan_ownErr B5
 simp only [isName_eq hM name hn, within_eq, n7, d4]
 rw [B9 hM _ (by simp; omega), d4]
 unfold ownE
 cases nameOK name <;> cases inB id 0 1007 <;> rfl
theorem ItselfErr_eq {N : Nat} (hM : N ≤ 20000) (h : 20 < N) (name : ByteArray) (id a b m p t : Int) : u2 N name id a b m p t = some (ownE name id) := by
 unfold u2 v4 ownE
 simp only [IsName_eq hM (by omega : 12 < N) name, Within_eq, d4]
 cases nameOK name <;> cases inB id 0 1007 <;> rfl
theorem point_chk {rows : Rows} (h : rows.length ≤ 1000000000) {a : Int} (hx : inB a 0 (w64 ((rows.length : Int) - 1)) = true) : 0 ≤ (0 : Int) ∧ (0 : Int) < (rows.length : Int) := by
 rw [j6 (by omega)] at hx
 have := inB_true.1 hx
 omega
theorem pointErr_eq {N : Nat} {rows : Rows} (h : rows.length ≤ 1000000000) (a b : Int) : s3 N rows a b = some (pointE rows a b) := by
 unfold s3 pointE
 simp only [within_eq, d4, n7]
 rw [d7 (point_chk h)]
 cases inB a 0 (w64 ((rows.length : Int) - 1)) <;> cases inB b 0 (w64 (((rows.getD 0 default).length : Int) - 1)) <;> rfl
theorem PointErr_eq {N : Nat} {rows : Rows} (h : rows.length ≤ 1000000000) (a b : Int) : t4 N rows a b = some (pointE rows a b) := by
 unfold t4 pointE
 simp only [Within_eq, d4]
 rw [d7 (point_chk h)]
 cases inB a 0 (w64 ((rows.length : Int) - 1)) <;> cases inB b 0 (w64 (((rows.getD 0 default).length : Int) - 1)) <;> rfl
theorem numbersErr_eq {N : Nat} (name : ByteArray) (id a b m p t : Int) : u6 N name id a b m p t = some (numE m p t) := by
 unfold u6 p3 numE
 simp only [within_eq, d4, n7]
 cases inB m 1 200 <;> cases inB p (-2000) 1000 <;> cases inB t 0 11 <;> rfl
theorem NumbersErr_eq {N : Nat} (name : ByteArray) (id a b m p t : Int) : s9 N name id a b m p t = some (numE m p t) := by
 unfold s9 ref09_isTilt numE
 simp only [Within_eq, d4]
 cases inB m 1 200 <;> cases inB p (-2000) 1000 <;> cases inB t 0 11 <;> rfl
theorem CheckCell_eq {N : Nat} (hM : N ≤ 20000) (h : 20 < N) {rows : Rows} (hl : rows.length < N) (hr : ∀ row ∈ rows, row.length < N) (name : ByteArray) (hn : name.size < N) (id a b m p t : Int) :
  y9 N rows name id a b m p t = some (cellE rows name id a b m p t) := by
 unfold y9 t5
 rw [CheckRaster_eq hM h hl hr, d4, d4, ownErr_eq hM h name hn, d4, pointErr_eq (by omega), d4, numbersErr_eq, d4, B9 hM _ (by simp; omega)]
 rfl
theorem CellErr_eq {N : Nat} (hM : N ≤ 20000) (h : 20 < N) {rows : Rows} (hl : rows.length ≤ 1000000000) (name : ByteArray) (id a b m p t : Int) :
  B3 N rows name id a b m p t = some (cellE rows name id a b m p t) := by
 unfold B3 q6 cellE
 rw [RefRaster_eq hM h, d4, d4, ItselfErr_eq hM h, d4, PointErr_eq hl, d4, NumbersErr_eq, d4]
 simp only [l4]
 by_cases h1 : (rasT rows).2.2 = 0
 ·
  rw [h1, i4 (by rfl), if_neg (by simp)]
  by_cases h2 : ownE name id = 0
  ·
   rw [h2, i4 (by rfl), if_neg (by simp)]
   by_cases h3 : pointE rows a b = 0
   ·
    rw [h3, i4 (by rfl), if_neg (by simp)]
    by_cases h4 : numE m p t = 0
    · rw [h4]; rfl
    · rw [if_pos h4]
   · rw [f9 (by simpa using h3), if_pos h3]
  · rw [f9 (by simpa using h2), if_pos h2]
 · rw [f9 (by simpa using h1), if_pos h1]

def badL (n : Nat) : Bool := ((decide ((n : Int) > 5)) && (decide ((n : Int) ≤ 12))) || (decide ((n : Int) > 14))
theorem badL_le {n : Nat} (h : badL n = false) : n ≤ 14 := by
 simp only [badL, Bool.or_eq_false_iff, decide_eq_false_iff_not] at h
 omega
theorem raster_eq {N : Nat} (hM : N ≤ 20000) (h : 20 < N) (rows : Rows) : law09_raster N rows = some (!badL rows.length && rows.all fun r => !badL r.length) := by
 unfold law09_raster
 rw [show (((decide ((rows.length : Int) > 5)) && (decide ((rows.length : Int) ≤ 12))) || (decide ((rows.length : Int) > 14))) = badL rows.length from rfl]
 cases hb : badL rows.length with
 | true => rfl
 | false =>
  rw [i4 rfl]
  have hl := badL_le hb
  simp only [jn]
  refine (u3 rows.length _ (fun k => some ((rows.drop k).all fun r => !badL r.length)) (fun k rec hk hr => ?_) (fun rec => ?_) (show rows.length < N by omega)).trans (by simp)
  ·
   simp only [u7]
   rw [f9 (by simpa using hk), d7 (by omega), d7 (by intro _; omega), d7 (by intro _; omega), List.drop_eq_getElem_cons hk, k5 (by omega), hr]
   simp only [Int.toNat_natCast, j2 hk, List.all_cons]
   rw [show (((decide ((rows[k].length : Int) > 5)) && (decide ((rows[k].length : Int) ≤ 12))) || (decide ((rows[k].length : Int) > 14))) = badL rows[k].length from rfl]
   cases badL rows[k].length <;> simp [br]
  · simp [u7, br]
end Go.Sh

/-
 Whether a cell sees a point: the same on both sides.
-/
namespace Go.Sh
open Go.PW

theorem rowR_bad {L0 k : Nat} {row : List Int} {e : Int × Int × Int} (h : rowR L0 k row = some e) : e.2.2 ≠ 0 := by
 unfold rowR at h
 split at h
 · cases h; simp
 ·
  split at h
  · cases h; simp
  ·
   split at h
   · cases h; simp
   · cases h
theorem rowsR_zero {L0 : Nat} : ∀ {rows : Rows} {k : Nat}, (rowsR L0 k rows).2.2 = 0 → ∀ row ∈ rows, row.length = L0 ∧ row.length ≤ 12 ∧ row.length ≠ 0
 | [], _, _, row, hr => by simp at hr
 | r :: rest, k, h, row, hr => by
  simp only [rowsR] at h
  cases he : rowR L0 k r with
  | some e => rw [he] at h; exact absurd h (rowR_bad he)
  | none =>
   rw [he] at h
   rcases List.mem_cons.1 hr with e | hr'
   ·
    subst e
    unfold rowR at he
    split at he
    · cases he
    ·
     split at he
     · cases he
     ·
      rename_i h1 h2
      omega
   · exact rowsR_zero h row hr'
theorem rasT_zero {rows : Rows} (h : (rasT rows).2.2 = 0) : rows.length ≠ 0 ∧ rows.length ≤ 12 ∧ ∀ row ∈ rows, row.length = (rows.getD 0 default).length ∧ row.length ≤ 12 ∧ row.length ≠ 0 := by
 unfold rasT at h
 split at h
 · exact absurd h (by decide)
 ·
  split at h
  · exact absurd h (by decide)
  ·
   rename_i h0 h1
   exact ⟨h0, by omega, rowsR_zero h⟩
structure RasOK (rows : Rows) (L : Nat) : Prop where
 n0 : 1 ≤ rows.length
 n12 : rows.length ≤ 12
 l0 : 1 ≤ L
 l12 : L ≤ 12
 at0 : (rows.getD 0 default).length = L
 all : ∀ i : Nat, i < rows.length → (rows.getD i default).length = L
theorem rasOK_of {rows : Rows} (h : (rasT rows).2.2 = 0) : RasOK rows (rows.getD 0 default).length := by
 obtain ⟨h0, h1, h2⟩ := rasT_zero h
 have hz : 0 < rows.length := by omega
 have h3 := h2 (rows.getD 0 default) (by rw [j2 hz]; exact List.getElem_mem hz)
 exact ⟨by omega, h1, by omega, h3.2.1, rfl, fun i hi => (h2 _ (by rw [j2 hi]; exact List.getElem_mem hi)).1⟩
def inP (rows : Rows) (L : Nat) (a b : Int) : Prop := (0 ≤ a ∧ a < (rows.length : Int)) ∧ 0 ≤ b ∧ b < (L : Int)
theorem point_zero {rows : Rows} {L : Nat} (hr : RasOK rows L) {a b : Int} (h : pointE rows a b = 0) : inP rows L a b := by
 unfold pointE at h
 have := hr.n0; have := hr.n12; have := hr.l0; have := hr.l12
 rw [hr.at0, j6 (by omega), j6 (by omega)] at h
 split at h
 ·
  rename_i hc
  simp only [Bool.and_eq_true, inB_true] at hc
  unfold inP
  omega
 · exact absurd h (by decide)

theorem mul_bd {a b A B : Int} (ha : -A ≤ a ∧ a ≤ A) (hb : -B ≤ b ∧ b ≤ B) : -(A * B) ≤ a * b ∧ a * b ≤ A * B := by
 have h1 : a.natAbs ≤ A.toNat := by omega
 have h2 : b.natAbs ≤ B.toNat := by omega
 have h3 : (a * b).natAbs ≤ A.toNat * B.toNat := by rw [Int.natAbs_mul]; exact Nat.mul_le_mul h1 h2
 have h4 : ((A.toNat * B.toNat : Nat) : Int) = A * B := by
  rw [Int.natCast_mul, Int.toNat_of_nonneg (by omega), Int.toNat_of_nonneg (by omega)]
 omega
theorem floor_eq {a b : Int} (hb : 0 < b) : (if a.tmod b < 0 then a.tdiv b - 1 else a.tdiv b) = a / b := by
 have h1 := Int.mul_tdiv_add_tmod a b
 have h2 := Int.tmod_lt_of_pos a hb
 have h3 := Int.lt_tmod_of_pos a hb
 split
 ·
  rename_i h
  refine ((Int.ediv_emod_unique hb (r := a.tmod b + b) (q := a.tdiv b - 1)).2 ⟨?_, by omega, by omega⟩).1.symm
  rw [Int.mul_sub, Int.mul_one]; omega
 · exact ((Int.ediv_emod_unique hb (r := a.tmod b) (q := a.tdiv b)).2 ⟨by omega, by omega, by omega⟩).1.symm
theorem tdiv_bd {a b : Int} (ha : -1000 ≤ a ∧ a ≤ 1000) : -1000 ≤ a.tdiv b ∧ a.tdiv b ≤ 1000 := by
 have h1 : (a.tdiv b).natAbs ≤ a.natAbs := by rw [Int.natAbs_tdiv]; exact Nat.div_le_self _ _
 omega
theorem fl_br {a b : Int} (hb : 0 < b) (ha : -1000 ≤ a ∧ a ≤ 1000) : br (decide (a.tmod b < (0 : Int))) (some (w64 ((w64 (a.tdiv b)) - (1 : Int)))) (some (w64 (a.tdiv b))) = some (a / b) := by
 have h1 := tdiv_bd (b := b) ha
 rw [j6 (n := a.tdiv b) (by omega), j6 (n := a.tdiv b - 1) (by omega), ← floor_eq hb]
 by_cases h : a.tmod b < 0
 · rw [f9 (by simpa using h), if_pos h]
 · rw [i4 (by simpa using h), if_neg h]
theorem nearest_eq {N : Nat} {m n : Int} (hn : 1 ≤ n ∧ n ≤ 12) (hm : -144 ≤ m ∧ m ≤ 144) : A4 N m n = some ((2 * m + n) / (2 * n)) := by
 unfold A4
 rw [j6 (n := 2 * n) (by omega), j6 (n := 2 * m) (by omega), j6 (n := 2 * m + n) (by omega), d7 (by omega), d7 (by omega), fl_br (by omega) (by omega)]
theorem Floor_eq {N : Nat} {a b : Int} (hb : 0 < b) (ha : -1000 ≤ a ∧ a ≤ 1000) : base_Floor N a b = some (a / b) := by
 unfold base_Floor
 rw [d7 (by omega), d7 (by omega), fl_br hb ha]

def qF (n k d : Int) : Int := (2 * (k * d) + n) / (2 * n)
theorem qF_bd {n k d : Int} (hk : 1 ≤ k) (hkn : k < n) : (0 ≤ d → 0 ≤ qF n k d ∧ qF n k d ≤ d) ∧ (d ≤ 0 → d ≤ qF n k d ∧ qF n k d ≤ 0) := by
 have hn : 0 < 2 * n := by omega
 have e1 : d * (2 * n) = 2 * (n * d) := by rw [Int.mul_left_comm, Int.mul_comm d n]
 have e2 : (d + 1) * (2 * n) = 2 * (n * d) + 2 * n := by rw [Int.add_mul, Int.one_mul, e1]
 unfold qF
 refine ⟨fun hd => ?_, fun hd => ?_⟩
 ·
  have h1 : 0 ≤ k * d := Int.mul_nonneg (by omega) hd
  have h2 : k * d ≤ n * d := Int.mul_le_mul_of_nonneg_right (by omega) hd
  refine ⟨(Int.le_ediv_iff_mul_le hn).2 (by omega), Int.lt_add_one_iff.1 ((Int.ediv_lt_iff_lt_mul hn).2 (by omega))⟩
 ·
  have h1 : n * d ≤ k * d := Int.mul_le_mul_of_nonpos_right (by omega) hd
  have h2 : k * d ≤ 0 * d := Int.mul_le_mul_of_nonpos_right (by omega) hd
  refine ⟨(Int.le_ediv_iff_mul_le hn).2 (by omega), Int.lt_add_one_iff.1 ((Int.ediv_lt_iff_lt_mul hn).2 (by omega))⟩
theorem qF_in {n k a c H : Int} (hk : 1 ≤ k) (hkn : k < n) (ha : 0 ≤ a ∧ a < H) (hc : 0 ≤ c ∧ c < H) : 0 ≤ c + qF n k (a - c) ∧ c + qF n k (a - c) < H := by
 have h := qF_bd (d := a - c) hk hkn
 by_cases hd : 0 ≤ a - c
 · have := h.1 hd; omega
 · have := h.2 (by omega); omega
noncomputable def szV (n : Int) : Int := if n < w64 (0 - n) then w64 (0 - n) else n
noncomputable def stepV (a0 a1 b0 b1 : Int) : Int := if szV (w64 (a0 - b0)) < szV (w64 (a1 - b1)) then szV (w64 (a1 - b1)) else szV (w64 (a0 - b0))
theorem steps_eq (N : Nat) (a0 a1 b0 b1 : Int) : plan_steps N a0 a1 b0 b1 = some (stepV a0 a1 b0 b1) := rfl
theorem Steps_eq (N : Nat) (a0 a1 b0 b1 : Int) : ref09_Steps N a0 a1 b0 b1 = some (stepV a0 a1 b0 b1) := rfl
theorem szV_bd {n : Int} (h : -12 ≤ n ∧ n ≤ 12) : 0 ≤ szV (w64 n) ∧ szV (w64 n) ≤ 12 := by
 unfold szV
 rw [j6 (n := n) (by omega), j6 (n := 0 - n) (by omega)]
 split <;> omega
theorem stepV_bd {a0 a1 b0 b1 : Int} (h0 : -12 ≤ a0 - b0 ∧ a0 - b0 ≤ 12) (h1 : -12 ≤ a1 - b1 ∧ a1 - b1 ≤ 12) : 0 ≤ stepV a0 a1 b0 b1 ∧ stepV a0 a1 b0 b1 ≤ 12 := by
 have := szV_bd h0
 have := szV_bd h1
 unfold stepV
 split <;> omega

def allF (cond : Int → Bool) : Nat → Int → Bool
 | 0, _ => true
 | m + 1, k => !cond k && allF cond m (k + 1)
theorem sees_loop {b : (Int → Option Bool) → Int → Option Bool} {cond : Int → Bool} {n : Int} (hn : n ≤ 12) (hb : ∀ rec k, 1 ≤ k → k < n → b rec k = br (cond k) (some false) (rec (w64 (k + 1)))) (he : ∀ rec k, ¬ k < n → b rec k = some true) {N : Nat} (hN : 20 < N) :
  rds b N 1 = some (allF cond (n - 1).toNat 1) := by
 refine rds_spec (fun k : Int => 1 ≤ k) (fun k => (n - k).toNat) (fun k => some (allF cond (n - k).toNat k)) (fun rec k hk hrec => ?_) N 1 (by decide) (by omega)
 by_cases h : k < n
 ·
  rw [hb rec k hk h, j6 (by omega), hrec (k + 1) (by omega) (by omega)]
  obtain ⟨m, hm⟩ : ∃ m, (n - k).toNat = m + 1 := ⟨(n - k).toNat - 1, by omega⟩
  have hm2 : (n - (k + 1)).toNat = m := by omega
  rw [hm, hm2, allF]
  cases cond k <;> rfl
 ·
  rw [he rec k h]
  have : (n - k).toNat = 0 := by omega
  rw [this]; rfl
def hgt (rows : Rows) (a b : Int) : Int := (rows.getD a.toNat default).getD b.toNat 0
noncomputable def condS (rows : Rows) (c0 c1 mast a0 a1 n k : Int) : Bool :=
 decide (w64 (n * hgt rows (c0 + qF n k (a0 - c0)) (c1 + qF n k (a1 - c1))) > w64 ((w64 ((w64 (n - k)) * (w64 (hgt rows c0 c1 + mast)))) + (w64 (k * (w64 (hgt rows a0 a1 + (2 : Int)))))))
noncomputable def seesV (rows : Rows) (c0 c1 mast a0 a1 : Int) : Bool := allF (condS rows c0 c1 mast a0 a1 (stepV c0 c1 a0 a1)) (stepV c0 c1 a0 a1 - 1).toNat 1
section
variable {rows : Rows} {L : Nat}
theorem sees1_eq (N : Nat) (hr : RasOK rows L) {a b : Int} (h : inP rows L a b) : z9 N a b rows = some (hgt rows a b) := by
 unfold z9
 rw [d7 h.1, d7 (by rw [hr.all a.toNat (by have := h.1; omega)]; exact h.2)]
 rfl
theorem inP_mid (hr : RasOK rows L) {c0 c1 a0 a1 n k : Int} (hc : inP rows L c0 c1) (ha : inP rows L a0 a1) (hk : 1 ≤ k) (hkn : k < n) : inP rows L (c0 + qF n k (a0 - c0)) (c1 + qF n k (a1 - c1)) :=
 ⟨qF_in hk hkn ha.1 hc.1, qF_in hk hkn ha.2 hc.2⟩
theorem sees_eq {N : Nat} (hN : 20 < N) (hr : RasOK rows L) (name : ByteArray) (id : Int) {c0 c1 a0 a1 : Int} (hc : inP rows L c0 c1) (ha : inP rows L a0 a1) (mast p t : Int) :
  plan_sees N rows name id c0 c1 mast p t a0 a1 = some (seesV rows c0 c1 mast a0 a1) := by
 have hb0 : rows.length ≤ 12 := hr.n12
 have hb1 : L ≤ 12 := hr.l12
 have hs := stepV_bd (a0 := c0) (a1 := c1) (b0 := a0) (b1 := a1) (by have := hc.1; have := ha.1; omega) (by have := hc.2; have := ha.2; omega)
 unfold plan_sees seesV
 rw [steps_eq, d4, sees1_eq N hr hc, d4, sees1_eq N hr ha, d4]
 simp only [jn]
 generalize stepV c0 c1 a0 a1 = n at hs ⊢
 refine sees_loop hs.2 (fun rec k hk hkn => ?_) (fun rec k hk => ?_) hN
 ·
  have hm := inP_mid hr hc ha hk hkn
  have d0 := mul_bd (a := k) (b := a0 - c0) (A := 12) (B := 12) (by omega) (by have := hc.1; have := ha.1; omega)
  have d1 := mul_bd (a := k) (b := a1 - c1) (A := 12) (B := 12) (by omega) (by have := hc.2; have := ha.2; omega)
  simp only [plan_sees.b1, jn]
  rw [f9 (by simpa using hkn), j6 (n := a0 - c0) (by have := hc.1; have := ha.1; omega), j6 (n := k * (a0 - c0)) (by omega), nearest_eq (by omega) (by omega), d4,
   j6 (n := a1 - c1) (by have := hc.2; have := ha.2; omega), j6 (n := k * (a1 - c1)) (by omega), nearest_eq (by omega) (by omega), d4]
  have e0 : (2 * (k * (a0 - c0)) + n) / (2 * n) = qF n k (a0 - c0) := rfl
  have e1 : (2 * (k * (a1 - c1)) + n) / (2 * n) = qF n k (a1 - c1) := rfl
  rw [e0, e1, j6 (n := c0 + qF n k (a0 - c0)) (by have := hm.1; omega), j6 (n := c1 + qF n k (a1 - c1)) (by have := hm.2; omega), sees1_eq N hr hm, d4]
  rfl
 ·
  simp only [plan_sees.b1]
  rw [i4 (by simpa using hk)]
theorem RefSees_eq {N : Nat} (hN : 20 < N) (hr : RasOK rows L) (name : ByteArray) (id : Int) {c0 c1 a0 a1 : Int} (hc : inP rows L c0 c1) (ha : inP rows L a0 a1) (mast p t : Int) :
  ref09_Sees N rows name id c0 c1 mast p t a0 a1 = some (seesV rows c0 c1 mast a0 a1) := by
 have hb0 : rows.length ≤ 12 := hr.n12
 have hb1 : L ≤ 12 := hr.l12
 have hs := stepV_bd (a0 := c0) (a1 := c1) (b0 := a0) (b1 := a1) (by have := hc.1; have := ha.1; omega) (by have := hc.2; have := ha.2; omega)
 have hlen : ∀ {a b : Int}, inP rows L a b → 0 ≤ b ∧ b < ((rows.getD a.toNat default).length : Int) := fun h => by
  rw [hr.all _ (by have := h.1; omega)]; exact h.2
 unfold ref09_Sees seesV
 rw [Steps_eq, d4, d7 hc.1, d7 (hlen hc), d7 ha.1, d7 (hlen ha)]
 simp only [jn]
 generalize stepV c0 c1 a0 a1 = n at hs ⊢
 refine sees_loop hs.2 (fun rec k hk hkn => ?_) (fun rec k hk => ?_) hN
 ·
  have hm := inP_mid hr hc ha hk hkn
  have d0 := mul_bd (a := k) (b := a0 - c0) (A := 12) (B := 12) (by omega) (by have := hc.1; have := ha.1; omega)
  have d1 := mul_bd (a := k) (b := a1 - c1) (A := 12) (B := 12) (by omega) (by have := hc.2; have := ha.2; omega)
  have f0 : (2 * (a0 - c0)) * k = 2 * (k * (a0 - c0)) := by rw [Int.mul_assoc, Int.mul_comm (a0 - c0) k]
  have f1 : (2 * (a1 - c1)) * k = 2 * (k * (a1 - c1)) := by rw [Int.mul_assoc, Int.mul_comm (a1 - c1) k]
  simp only [B1]
  rw [f9 (by simpa using hkn), j6 (n := a0 - c0) (by have := hc.1; have := ha.1; omega), j6 (n := 2 * (a0 - c0)) (by have := hc.1; have := ha.1; omega), f0, j6 (n := 2 * (k * (a0 - c0))) (by omega), j6 (n := 2 * (k * (a0 - c0)) + n) (by omega), j6 (n := 2 * n) (by omega),
   Floor_eq (by omega) (by omega), d4, j6 (n := a1 - c1) (by have := hc.2; have := ha.2; omega), j6 (n := 2 * (a1 - c1)) (by have := hc.2; have := ha.2; omega), f1, j6 (n := 2 * (k * (a1 - c1))) (by omega), j6 (n := 2 * (k * (a1 - c1)) + n) (by omega), Floor_eq (by omega) (by omega), d4]
  have e0 : (2 * (k * (a0 - c0)) + n) / (2 * n) = qF n k (a0 - c0) := rfl
  have e1 : (2 * (k * (a1 - c1)) + n) / (2 * n) = qF n k (a1 - c1) := rfl
  rw [e0, e1, j6 (n := c0 + qF n k (a0 - c0)) (by have := hm.1; omega), j6 (n := c1 + qF n k (a1 - c1)) (by have := hm.2; omega), d7 hm.1, d7 (hlen hm)]
  rfl
 ·
  simp only [B1]
  rw [i4 (by simpa using hk)]
end

theorem cellE_zero {rows : Rows} {name : ByteArray} {id a b m p t : Int} (h : cellE rows name id a b m p t = 0) : (rasT rows).2.2 = 0 ∧ pointE rows a b = 0 := by
 unfold cellE at h
 simp only [l4] at h
 split at h
 · rename_i h1; exact absurd h h1
 ·
  rename_i h1
  split at h
  · rename_i h2; exact absurd h h2
  ·
   split at h
   · rename_i h3; exact absurd h h3
   ·
    rename_i h3
    exact ⟨Classical.not_not.1 h1, Classical.not_not.1 h3⟩
end Go.Sh

/-
 Plans: their errors, and the levels of their cells. The same on both sides.
-/
namespace Go.Sh
open Go.PW

abbrev m9 := ByteArray × Int × Int × Int × Int × Int × Int
noncomputable def cE (rows : Rows) (c : m9) : Int := cellE rows c.1 c.2.1 c.2.2.1 c.2.2.2.1 c.2.2.2.2.1 c.2.2.2.2.2.1 c.2.2.2.2.2.2
def sameN (c o : m9) : Bool := o.1.toList == c.1.toList
noncomputable def cellsE (rows : Rows) : List m9 → List m9 → Int
 | _, [] => 0
 | prev, c :: l => if cE rows c ≠ 0 then cE rows c else if prev.any (sameN c) = true then 5 else cellsE rows (prev ++ [c]) l
def lossE : Int → List (Int × Int) → Int
 | _, [] => 0
 | last, l :: rest => if (inB l.1 0 300 && inB l.2 0 3000) = false then 2 else if l.1 ≤ last then 9 else lossE l.1 rest
def lastE (h s l : Int) : Int := if ((inB h 0 3000 && inB s 0 100) && inB l (-2000) 1000) = true then 0 else 2
noncomputable def planE (rows : Rows) (cells : List m9) (losses : List (Int × Int)) (h s l : Int) : Int :=
 if (rasT rows).2.2 ≠ 0 then (rasT rows).2.2 else if cells.length = 0 then 10 else if 6 < cells.length then 8
 else if cellsE rows [] cells ≠ 0 then cellsE rows [] cells else if losses.length = 0 then 10 else if 12 < losses.length then 8
 else if lossE (-1) losses ≠ 0 then lossE (-1) losses else lastE h s l

theorem idxF_pos {α : Type} (p : α → Bool) : ∀ (l : List α) (k : Nat), 0 ≤ idxF p k l ↔ l.any p = true
 | [], k => by simp [idxF]
 | x :: l, k => by
  unfold idxF
  by_cases h : p x = true
  · simp [h]
  ·
   simp only [h, Bool.false_eq_true, if_false, List.any_cons, Bool.false_or]
   have := idxF_pos p l (k + 1)
   simpa [h] using this
theorem IndexCell_eq {N : Nat} (hM : N ≤ 20000) {f : ByteArray → Int → Int → Int → Int → Int → Int → Option Bool} {p : m9 → Bool} (hf : ∀ x : m9, f x.1 x.2.1 x.2.2.1 x.2.2.2.1 x.2.2.2.2.1 x.2.2.2.2.2.1 x.2.2.2.2.2.2 = some (p x)) (l : List m9) (h : l.length < N) :
  slices_IndexFunc_api_PlanCell_api_PlanCell N l f = some (idxF p 0 l) := by
 unfold slices_IndexFunc_api_PlanCell_api_PlanCell
 simp only [jn]
 refine (u3 l.length _ (fun k => some (idxF p k (l.drop k))) (fun k rec hk hr => ?_) (fun rec => ?_) h).trans (by simp)
 ·
  simp only [f6]
  rw [f9 (by simpa using hk), d7 (by omega), List.drop_eq_getElem_cons hk, idxF, k5 (by omega), hr, Int.toNat_natCast, j2 hk, hf, d4]
  cases p l[k] <;> simp [br]
 · simp [f6, br, idxF]
theorem IndexLoss_eq {N : Nat} (hM : N ≤ 20000) {f : Int → Int → Option Bool} {p : Int × Int → Bool} (hf : ∀ x : Int × Int, f x.1 x.2 = some (p x)) (l : List (Int × Int)) (h : l.length < N) :
  slices_IndexFunc_api_PlanLoss_api_PlanLoss N l f = some (idxF p 0 l) := by
 unfold slices_IndexFunc_api_PlanLoss_api_PlanLoss
 simp only [jn]
 refine (u3 l.length _ (fun k => some (idxF p k (l.drop k))) (fun k rec hk hr => ?_) (fun rec => ?_) h).trans (by simp)
 ·
  simp only [f5]
  rw [f9 (by simpa using hk), d7 (by omega), List.drop_eq_getElem_cons hk, idxF, k5 (by omega), hr, Int.toNat_natCast, j2 hk, hf, d4]
  cases p l[k] <;> simp [br]
 · simp [f5, br, idxF]
theorem ContainsCell_eq {N : Nat} (hM : N ≤ 20000) {f : ByteArray → Int → Int → Int → Int → Int → Int → Option Bool} {p : m9 → Bool} (hf : ∀ x : m9, f x.1 x.2.1 x.2.2.1 x.2.2.2.1 x.2.2.2.2.1 x.2.2.2.2.2.1 x.2.2.2.2.2.2 = some (p x)) (l : List m9) (h : l.length < N) :
  f7 N l f = some (l.any p) := by
 unfold f7
 rw [IndexCell_eq hM hf l h, d4]
 congr 1
 rw [Bool.eq_iff_iff]
 simp only [ge_iff_le, decide_eq_true_eq]
 exact idxF_pos p l 0
theorem HasText_eq {N : Nat} (hM : N ≤ 20000) (l : List ByteArray) (s : ByteArray) (h : l.length < N) : base_HasText N l s = some (l.any fun x => x.toList == s.toList) := by
 unfold base_HasText
 simp only [jn]
 refine (u3 l.length _ (fun k => some ((l.drop k).any fun x => x.toList == s.toList)) (fun k rec hk hr => ?_) (fun rec => ?_) h).trans (by simp)
 ·
  simp only [v3]
  rw [f9 (by simpa using hk), d7 (by omega), List.drop_eq_getElem_cons hk, List.any_cons, k5 (by omega), hr, Int.toNat_natCast, j2 hk]
  cases l[k].toList == s.toList <;> simp [br]
 · simp [v3, br]

theorem bne_t {x : Int} (h : x ≠ 0) : (x != (0 : Int)) = true := by simpa using h
theorem bne_f {x : Int} (h : ¬ x ≠ 0) : (x != (0 : Int)) = false := by simpa using h
theorem f2 (a : Bool) (e : Int) (he : e ≠ 0) (b : Bool) (g : Int) : l4 [if a = true then 0 else e, if b = true then 0 else g] = if a = false then e else if b = true then 0 else g := by
 cases a with
 | false => rw [f2a rfl he]; rfl
 | true => rw [f2b rfl]; rfl

theorem cnt_eq (n : Nat) (m : Nat) (m' : Int) (hm : m' = m) : l4 [if decide ((n : Int) > 0) = true then 0 else 10, if decide ((n : Int) ≤ m') = true then 0 else 8] = if n = 0 then 10 else if m < n then 8 else 0 := by
 rw [f2 _ _ (by decide)]
 by_cases h : n = 0
 · simp [h]
 ·
  rw [if_neg h, if_neg (by simp; omega)]
  by_cases h2 : m < n
  · rw [if_pos h2, if_neg (by simp; omega)]
  · rw [if_neg h2, if_pos (by simp; omega)]
theorem taken {α : Type} {l : List α} {k : Nat} (h : k < l.length) : l.take k ++ [l[k]] = l.take (k + 1) := List.take_append_getElem h

theorem planErr_eq {N : Nat} (hM : N ≤ 20000) (hN : 20 < N) {rows : Rows} (hl : rows.length < N) (hr : ∀ row ∈ rows, row.length < N) {cells : List m9} (hc : cells.length < N) (hn : ∀ c ∈ cells, c.1.size < N)
  {losses : List (Int × Int)} (hlo : losses.length < N) (h s l : Int) : plan_planErr N rows cells losses h s l = some (planE rows cells losses h s l) := by
 unfold plan_planErr t5 planE
 rw [CheckRaster_eq hM hN hl hr, d4, d4, n7, d4, n7, d4, B9 hM _ (by simp; omega), d4]
 by_cases h1 : (rasT rows).2.2 ≠ 0
 · rw [show l4 [(rasT rows).2.2, if decide ((cells.length : Int) > 0) = true then 0 else 10, if decide ((cells.length : Int) ≤ 6) = true then 0 else 8] = (rasT rows).2.2 by simp only [l4]; rw [if_pos h1], f9 (bne_t h1), if_pos h1]
 ·
  rw [show l4 [(rasT rows).2.2, if decide ((cells.length : Int) > 0) = true then 0 else 10, if decide ((cells.length : Int) ≤ 6) = true then 0 else 8] = l4 [if decide ((cells.length : Int) > 0) = true then 0 else 10, if decide ((cells.length : Int) ≤ 6) = true then 0 else 8] by rw [l4, if_neg h1], if_neg h1, cnt_eq cells.length 6 6 rfl]
  by_cases h2 : cells.length = 0
  · rw [if_pos h2, if_pos h2, f9 (by rfl)]
  rw [if_neg h2, if_neg h2]
  by_cases h3 : 6 < cells.length
  · rw [if_pos h3, if_pos h3, f9 (by rfl)]
  rw [if_neg h3, if_neg h3, i4 (by rfl)]
  simp only [jn]
  refine (u3 cells.length _ (fun k => if cellsE rows (cells.take k) (cells.drop k) ≠ 0 then some (cellsE rows (cells.take k) (cells.drop k)) else some (if losses.length = 0 then 10 else if 12 < losses.length then 8 else if lossE (-1) losses ≠ 0 then lossE (-1) losses else lastE h s l)) (fun k rec hk hrec => ?_) (fun rec => ?_) hc).trans ?_
  ·
   simp only [u5]
   rw [f9 (by simpa using hk), d7 (by omega), d7 (by omega), Int.toNat_natCast, j2 hk]
   rw [ContainsCell_eq hM (p := sameN cells[k]) (fun x => rfl) _ (by simp; omega), d4]
   rw [CheckCell_eq hM hN hl hr _ (hn _ (List.getElem_mem hk)), d4, n7, d4, B9 hM _ (by simp; omega), d4, k5 (by omega), hrec]
   rw [List.drop_eq_getElem_cons hk, cellsE, taken hk]
   rw [show cellE rows cells[k].1 cells[k].2.1 cells[k].2.2.1 cells[k].2.2.2.1 cells[k].2.2.2.2.1 cells[k].2.2.2.2.2.1 cells[k].2.2.2.2.2.2 = cE rows cells[k] from rfl]
   by_cases h4 : cE rows cells[k] ≠ 0
   · rw [show l4 [cE rows cells[k], if (!List.any (List.take k cells) (sameN cells[k])) = true then 0 else 5] = cE rows cells[k] by rw [l4, if_pos h4], f9 (bne_t h4), if_pos h4, if_pos h4]
   ·
    rw [show l4 [cE rows cells[k], if (!List.any (List.take k cells) (sameN cells[k])) = true then 0 else 5] = if (!List.any (List.take k cells) (sameN cells[k])) = true then 0 else 5 by rw [l4, if_neg h4, l4]; split <;> simp_all [l4], if_neg h4]
    cases hb : List.any (List.take k cells) (sameN cells[k]) with
    | true => simp [br]
    | false => simp [br]
  ·
   simp only [u5]
   rw [i4 (by simp)]
   simp only [n7, d4]
   rw [B9 hM _ (by simp; omega), d4, cnt_eq losses.length 12 12 rfl]
   simp only [List.drop_length, cellsE, ne_eq, not_true_eq_false, if_false]
   by_cases h5 : losses.length = 0
   · rw [if_pos h5, if_pos h5, f9 (by rfl)]
   rw [if_neg h5, if_neg h5]
   by_cases h6 : 12 < losses.length
   · rw [if_pos h6, if_pos h6, f9 (by rfl)]
   rw [if_neg h6, if_neg h6, i4 (by rfl)]
   refine (rds_spec (b := u4 N losses _) (fun x : Int × Int => ∃ k : Nat, k ≤ losses.length ∧ x.2 = k) (fun x => losses.length - x.2.toNat) (fun x => if lossE x.1 (losses.drop x.2.toNat) ≠ 0 then some (lossE x.1 (losses.drop x.2.toNat)) else some (lastE h s l)) (fun rec x hI hrec => ?_) N ((-1 : Int), (0 : Int)) ⟨0, Nat.zero_le _, rfl⟩ (by simp; omega)).trans ?_
   ·
    obtain ⟨last, t⟩ := x
    obtain ⟨k, hk, ht⟩ := hI
    simp only at ht
    subst ht
    simp only [u4]
    by_cases hkl : k < losses.length
    ·
     rw [f9 (by simpa using hkl), d7 (by omega)]
     simp only [Int.toNat_natCast, j2 hkl]
     rw [within_eq, d4, List.drop_eq_getElem_cons hkl, lossE]
     rw [show grd (inB losses[k].1 0 300) false (l1 N losses[k].2 0 3000) = some (if inB losses[k].1 0 300 = true then inB losses[k].2 0 3000 else false) by rw [within_eq]; unfold grd; split <;> rfl, d4, n7, d4, n7, d4, B9 hM _ (by simp; omega), d4, f2 _ _ (by decide), k5 (by omega), hrec (losses[k].1, ((k + 1 : Nat) : Int)) ⟨k + 1, hkl, rfl⟩ (by simp; omega)]
     rw [show (inB losses[k].1 0 300 && if inB losses[k].1 0 300 = true then inB losses[k].2 0 3000 else false) = (inB losses[k].1 0 300 && inB losses[k].2 0 3000) by cases inB losses[k].1 0 300 <;> rfl]
     cases inB losses[k].1 0 300 && inB losses[k].2 0 3000 with
     | false => simp [br]
     | true =>
      by_cases h7 : losses[k].1 ≤ last
      · simp [br, h7, show ¬ losses[k].1 > last by omega]
      · simp [br, h7, show losses[k].1 > last by omega]
    ·
     have : k = losses.length := by omega
     subst this
     rw [i4 (by simp)]
     simp only [Int.toNat_natCast, List.drop_length, lossE, ne_eq, not_true_eq_false, if_false, within_eq, d4, p3]
     unfold lastE
     cases inB h 0 3000 <;> cases inB s 0 100 <;> cases inB l (-2000) 1000 <;> rfl
   ·
    simp only [Int.toNat_zero, List.drop_zero]
    split <;> rfl
  ·
   simp only [List.take_zero, List.drop_zero]
   split <;> rfl

theorem PlanErr_eq {N : Nat} (hM : N ≤ 20000) (hN : 20 < N) {rows : Rows} (hl : rows.length < N) {cells : List m9} (hc : cells.length < N)
  {losses : List (Int × Int)} (hlo : losses.length < N) (h s l : Int) : ref09_PlanErr N rows cells losses h s l = some (planE rows cells losses h s l) := by
 unfold ref09_PlanErr q6 planE
 rw [RefRaster_eq hM hN, d4, d4]
 by_cases h1 : (rasT rows).2.2 ≠ 0
 · rw [f9 (bne_t h1), if_pos h1]
 rw [i4 (bne_f h1), if_neg h1]
 by_cases h2 : cells.length = 0
 · rw [f9 (by simp [h2]), if_pos h2]
 rw [i4 (by simpa using h2), if_neg h2]
 by_cases h3 : 6 < cells.length
 · rw [f9 (by simp; omega), if_pos h3]
 rw [i4 (by simp; omega), if_neg h3]
 simp only [jn]
 refine (rds_spec (b := s8 N rows cells _) (fun x : Int × List ByteArray => ∃ k : Nat, k ≤ cells.length ∧ x = ((k : Int), (cells.take k).map (·.1))) (fun x => cells.length - x.1.toNat) (fun x => if cellsE rows (cells.take x.1.toNat) (cells.drop x.1.toNat) ≠ 0 then some (cellsE rows (cells.take x.1.toNat) (cells.drop x.1.toNat)) else some (if losses.length = 0 then 10 else if 12 < losses.length then 8 else if lossE (-1) losses ≠ 0 then lossE (-1) losses else lastE h s l)) (fun rec x hI hrec => ?_) N ((0 : Int), []) ⟨0, Nat.zero_le _, by simp⟩ (by simp; omega)).trans ?_
 ·
  obtain ⟨k, hk, rfl⟩ := hI
  simp only [s8, Int.toNat_natCast]
  by_cases hkl : k < cells.length
  ·
   rw [f9 (by simpa using hkl), d7 (by omega), j2 hkl, CellErr_eq hM hN (by omega), d4]
   rw [show cellE rows cells[k].1 cells[k].2.1 cells[k].2.2.1 cells[k].2.2.2.1 cells[k].2.2.2.2.1 cells[k].2.2.2.2.2.1 cells[k].2.2.2.2.2.2 = cE rows cells[k] from rfl]
   rw [List.drop_eq_getElem_cons hkl, cellsE]
   by_cases h4 : cE rows cells[k] ≠ 0
   · rw [f9 (bne_t h4), if_pos h4, if_pos h4]
   ·
    rw [i4 (bne_f h4), if_neg h4, d7 (by omega), HasText_eq hM _ _ (by simp; omega), d4]
    rw [show (List.map (·.1) (List.take k cells)).any (fun x => x.toList == cells[k].1.toList) = List.any (List.take k cells) (sameN cells[k]) by rw [List.any_map]; rfl]
    cases hb : List.any (List.take k cells) (sameN cells[k]) with
    | true => simp [br]
    | false =>
     rw [i4 rfl, d7 (by omega), d7 (by simp; omega), k5 (by omega)]
     rw [hrec (((k + 1 : Nat) : Int), List.map (·.1) (List.take k cells) ++ [cells[k].1]) ⟨k + 1, hkl, by rw [← taken hkl, List.map_append]; rfl⟩ (by simp; omega)]
     simp only [Int.toNat_natCast, Bool.false_eq_true, if_false]
     rw [← taken hkl]
  ·
   have : k = cells.length := by omega
   subst this
   rw [i4 (by simp)]
   simp only [List.drop_length, cellsE, ne_eq, not_true_eq_false, if_false]
   by_cases h5 : losses.length = 0
   · rw [f9 (by simp [h5]), if_pos h5]
   rw [i4 (by simpa using h5), if_neg h5]
   by_cases h6 : 12 < losses.length
   · rw [f9 (by simp; omega), if_pos h6]
   rw [i4 (by simp; omega), if_neg h6]
   refine (u3 losses.length _ (fun j => if lossE (if j = 0 then -1 else (losses.getD (j - 1) default).1) (losses.drop j) ≠ 0 then some (lossE (if j = 0 then -1 else (losses.getD (j - 1) default).1) (losses.drop j)) else some (lastE h s l)) (fun j rec1 hj hrec1 => ?_) (fun rec1 => ?_) hlo).trans ?_
   ·
    simp only [s7]
    rw [f9 (by simpa using hj), d7 (by omega), Int.toNat_natCast, j2 hj, Within_eq, d4, d7 (by intro _; omega)]
    rw [show grd (inB losses[j].1 0 300) false (k4 N losses[j].2 0 3000) = some (if inB losses[j].1 0 300 = true then inB losses[j].2 0 3000 else false) by rw [Within_eq]; unfold grd; split <;> rfl, d4]
    rw [show ((!inB losses[j].1 0 300) || !(if inB losses[j].1 0 300 = true then inB losses[j].2 0 3000 else false)) = !(inB losses[j].1 0 300 && inB losses[j].2 0 3000) by cases inB losses[j].1 0 300 <;> simp]
    rw [List.drop_eq_getElem_cons hj, lossE]
    cases hb : inB losses[j].1 0 300 && inB losses[j].2 0 3000 with
    | false => simp [br]
    | true =>
     simp only [Bool.not_true, br_false, Bool.true_eq_false, if_false]
     rw [d7 (by intro _; omega), d7 (by
      intro h0
      have h0 := of_decide_eq_true h0
      rw [j6 (by omega)]; omega), k5 (by omega), hrec1]
     simp only [Nat.add_one_sub_one, Nat.succ_ne_zero, if_false, j2 hj]
     have hlow : 0 ≤ losses[j].1 := by
      simp only [Bool.and_eq_true, inB_true] at hb; omega
     rw [show (decide ((j : Int) > 0) && decide (losses[j].1 ≤ (losses.getD (w64 ((j : Int) - 1)).toNat default).1)) = decide (losses[j].1 ≤ (if j = 0 then -1 else (losses.getD (j - 1) default).1)) by
      rcases Nat.eq_zero_or_pos j with h0 | h0
      ·
       subst h0
       rw [if_pos rfl, Bool.eq_iff_iff]
       simp only [Bool.and_eq_true, decide_eq_true_eq]
       omega
      · rw [if_neg (by omega), j6 (n := (j : Int) - 1) (by omega), show ((j : Int) - 1).toNat = j - 1 by omega, decide_eq_true (show (j : Int) > 0 by omega), Bool.true_and]]
     by_cases h7 : losses[j].1 ≤ (if j = 0 then -1 else (losses.getD (j - 1) default).1)
     · rw [if_pos h7, f9 (decide_eq_true h7)]; simp
     · rw [if_neg h7, i4 (decide_eq_false h7)]
   ·
    simp only [s7]
    rw [i4 (by simp)]
    simp only [List.drop_length, lossE, ne_eq, not_true_eq_false, if_false, Within_eq, d4]
    unfold lastE
    cases inB h 0 3000 <;> cases inB s 0 100 <;> cases inB l (-2000) 1000 <;> rfl
   ·
    simp only [if_true, List.drop_zero]
    split <;> rfl
 ·
  simp only [Int.toNat_zero, List.take_zero, List.drop_zero]
  split <;> rfl
end Go.Sh

/-
 The levels of the cells of a plan, and the server of a point. The same on both sides.
-/
namespace Go.Sh
open Go.PW

abbrev Lv := Int × Bool
structure PlanOK (rows : Rows) (cells : List m9) (losses : List (Int × Int)) (L : Nat) : Prop where
 ras : RasOK rows L
 c1 : 1 ≤ cells.length
 c6 : cells.length ≤ 6
 l12 : losses.length ≤ 12
 at_ : ∀ c ∈ cells, inP rows L c.2.2.1 c.2.2.2.1
theorem cellsE_zero {rows : Rows} : ∀ {cells prev : List m9}, cellsE rows prev cells = 0 → ∀ c ∈ cells, cE rows c = 0
 | [], _, _, c, hc => by simp at hc
 | x :: l, prev, h, c, hc => by
  simp only [cellsE] at h
  split at h
  · rename_i h1; exact absurd h h1
  ·
   rename_i h1
   split at h
   · exact absurd h (by decide)
   ·
    rcases List.mem_cons.1 hc with e | hc'
    · subst e; exact Classical.not_not.1 h1
    · exact cellsE_zero h c hc'
theorem planOK_of {rows : Rows} {cells : List m9} {losses : List (Int × Int)} {h s l : Int} (he : planE rows cells losses h s l = 0) : PlanOK rows cells losses (rows.getD 0 default).length := by
 unfold planE at he
 split at he
 · rename_i h1; exact absurd he h1
 rename_i h1
 split at he
 · exact absurd he (by decide)
 split at he
 · exact absurd he (by decide)
 split at he
 · rename_i h2; exact absurd he h2
 rename_i h2
 split at he
 · exact absurd he (by decide)
 split at he
 · exact absurd he (by decide)
 have hr := rasOK_of (Classical.not_not.1 h1)
 exact ⟨hr, by omega, by omega, by omega, fun c hc => point_zero hr (cellE_zero (cellsE_zero (Classical.not_not.1 h2) c hc)).2⟩

noncomputable def sqV (a0 a1 b0 b1 : Int) : Int := w64 ((w64 ((w64 (a0 - b0)) * (w64 (a0 - b0)))) + (w64 ((w64 (a1 - b1)) * (w64 (a1 - b1)))))
noncomputable def lossP (q : Int) (l : Int × Int) : Bool := decide (l.1 ≥ q)
noncomputable def sumV (losses : List (Int × Int)) (s : Int) (c : m9) (a b : Int) : Int :=
 w64 ((w64 (c.2.2.2.2.2.1 - (losses.getD (idxF (lossP (sqV c.2.2.1 c.2.2.2.1 a b)) 0 losses).toNat default).2)) - (w64 (s * szV (w64 ((w64 ((12 : Int) - c.2.2.2.2.2.2)) - stepV c.2.2.1 c.2.2.2.1 a b)))))
noncomputable def levV (rows : Rows) (losses : List (Int × Int)) (h s : Int) (c : m9) (a b : Int) : Lv :=
 if idxF (lossP (sqV c.2.2.1 c.2.2.2.1 a b)) 0 losses < 0 then (0, false)
 else (if seesV rows c.2.2.1 c.2.2.2.1 c.2.2.2.2.1 a b = true then sumV losses s c a b else w64 (sumV losses s c a b - h), true)
noncomputable def lvls (rows : Rows) (losses : List (Int × Int)) (h s : Int) (L : Nat) (c : m9) : List Lv :=
 (List.range (rows.length * L)).map fun n => levV rows losses h s c ((n / L : Nat) : Int) ((n % L : Nat) : Int)

theorem idxF_lt {α : Type} (p : α → Bool) : ∀ (l : List α) (k : Nat), idxF p k l < ((k + l.length : Nat) : Int)
 | [], k => by simp [idxF]; omega
 | x :: l, k => by
  unfold idxF
  split
  · simp; omega
  ·
   have := idxF_lt p l (k + 1)
   simp only [List.length_cons]
   omega
section
variable {rows : Rows} {L : Nat}
theorem inP_of (hL : 1 ≤ L) {n : Nat} (hn : n < rows.length * L) : inP rows L ((n / L : Nat) : Int) ((n % L : Nat) : Int) := by
 have h1 : n / L < rows.length := Nat.div_lt_of_lt_mul (by rwa [Nat.mul_comm] at hn)
 have h2 : n % L < L := Nat.mod_lt _ (by omega)
 refine ⟨⟨Int.natCast_nonneg _, Int.ofNat_lt.2 h1⟩, Int.natCast_nonneg _, Int.ofNat_lt.2 h2⟩
theorem pts_le (hr : RasOK rows L) : rows.length * L ≤ 144 := Nat.mul_le_mul hr.n12 hr.l12
theorem fieldOf_eq {N : Nat} (hM : N ≤ 20000) (hN : 200 < N) (hr : RasOK rows L) (cells : List m9) {losses : List (Int × Int)} (hlo : losses.length < N) (h s l : Int) (lv : List (List Lv)) (c : m9) (hc : inP rows L c.2.2.1 c.2.2.2.1) :
  plan_field_of N rows cells losses h s l (L : Int) lv c.1 c.2.1 c.2.2.1 c.2.2.2.1 c.2.2.2.2.1 c.2.2.2.2.2.1 c.2.2.2.2.2.2 = some (lvls rows losses h s L c) := by
 have hp := pts_le hr
 have hL := hr.l0
 unfold plan_field_of v5
 simp only [jn, d4]
 rw [j6 (n := (rows.length : Int) * (L : Int)) (by rw [← Int.natCast_mul]; omega)]
 refine (rds_map (rows.length * L) (fun n => levV rows losses h s c ((n / L : Nat) : Int) ((n % L : Nat) : Int)) _ (fun l => some l) (fun k acc rec hk ha => ?_) (fun acc rec ha => ?_) (by omega)).trans rfl
 ·
  simp only [t2]
  have hin := inP_of (rows := rows) hL hk
  have h1 : (k : Int).tdiv (L : Int) = ((k / L : Nat) : Int) := (Int.ofNat_tdiv k L).symm
  have h2 : (k : Int).tmod (L : Int) = ((k % L : Nat) : Int) := (Int.ofNat_tmod k L).symm
  rw [f9 (by rw [decide_eq_true_eq]; rw [← Int.natCast_mul]; omega)]
  unfold z5
  rw [d7 (by omega), d7 (by omega), d4, h1, h2, j6 (n := ((k / L : Nat) : Int)) (by have := Nat.div_le_self k L; generalize k / L = z at *; omega)]
  simp only
  rw [IndexLoss_eq hM (p := lossP (sqV c.2.2.1 c.2.2.2.1 ((k / L : Nat) : Int) ((k % L : Nat) : Int))) (fun x => rfl) _ hlo, d4, k5 (by omega)]
  unfold levV
  by_cases h3 : idxF (lossP (sqV c.2.2.1 c.2.2.2.1 ((k / L : Nat) : Int) ((k % L : Nat) : Int))) 0 losses < 0
  · rw [f9 (by simpa using h3), if_pos h3, d7 (by simp; omega)]
  ·
   rw [i4 (by simpa using h3), if_neg h3, d7 (by have := idxF_lt (lossP (sqV c.2.2.1 c.2.2.2.1 ((k / L : Nat) : Int) ((k % L : Nat) : Int))) losses 0; omega)]
   rw [steps_eq, d4, show ∀ n, plan_size N n = some (szV n) from fun n => rfl, d4, sees_eq (by omega) hr c.1 c.2.1 hc hin, d4]
   cases seesV rows c.2.2.1 c.2.2.2.1 c.2.2.2.2.1 ((k / L : Nat) : Int) ((k % L : Nat) : Int) with
   | true => rw [show (!true) = false from rfl, i4 rfl, d7 (by simp; omega)]; rfl
   | false => rw [show (!false) = true from rfl, f9 rfl, d7 (by simp; omega)]; rfl
 ·
  simp only [t2]
  rw [i4 (by rw [decide_eq_false_iff_not, ← Int.natCast_mul]; omega)]

noncomputable def lvBody {R : Type} (N : Nat) (rows : Rows) (cells : List m9) (losses : List (Int × Int)) (h s l : Int) (K_ : List (List Lv) → Option R) (rec : Int × List (List Lv) → Option R) : Int × List (List Lv) → Option R := fun (t25, b41) =>
 br (decide (t25 < (cells.length : Int))) (
 chk (0 ≤ t25 ∧ t25 < (cells.length : Int)) <|
 bnd (plan_field_of N rows cells losses h s l ((rows.getD 0 default).length : Int) b41 ((cells.getD t25.toNat default).1) ((cells.getD t25.toNat default).2.1) ((cells.getD t25.toNat default).2.2.1) ((cells.getD t25.toNat default).2.2.2.1) ((cells.getD t25.toNat default).2.2.2.2.1) ((cells.getD t25.toNat default).2.2.2.2.2.1) ((cells.getD t25.toNat default).2.2.2.2.2.2)) fun x2 =>
 chk (b41.length + ([x2] : List (List Lv)).length ≤ 1000000000) <|
 rec (w64 (t25 + (1 : Int)), (b41 ++ ([x2] : List (List Lv))))) (
 K_ b41)
noncomputable def allLv (rows : Rows) (cells : List m9) (losses : List (Int × Int)) (h s : Int) (L : Nat) : List (List Lv) := cells.map (lvls rows losses h s L)
theorem lv_loop {R : Type} {N : Nat} (hM : N ≤ 20000) (hN : 200 < N) {cells : List m9} {losses : List (Int × Int)} (hp : PlanOK rows cells losses L) (h s l : Int) (K : List (List Lv) → Option R) :
  rds (lvBody N rows cells losses h s l K) N ((0 : Int), []) = K (allLv rows cells losses h s L) := by
 have hr := hp.ras
 refine (rds_map cells.length (fun k => lvls rows losses h s L (cells.getD k default)) _ K (fun k acc rec hk ha => ?_) (fun acc rec ha => ?_) (by have := hp.c6; omega)).trans ?_
 ·
  simp only [lvBody]
  have hm := List.getElem_mem hk
  rw [f9 (by simpa using hk), d7 (by omega), Int.toNat_natCast, j2 hk, hr.at0, fieldOf_eq hM hN hr cells (by have := hp.l12; omega) h s l acc _ (hp.at_ _ hm), d4, d7 (by have := hp.c6; simp; omega), k5 (by have := hp.c6; omega)]
 · simp [lvBody, br]
 ·
  congr 1
  unfold allLv
  refine List.ext_getElem (by simp) fun k h1 h2 => ?_
  have : k < cells.length := by simpa using h2
  simp only [List.getElem_map, List.getElem_range, j2 this]
theorem lvls_len (losses : List (Int × Int)) (h s : Int) (c : m9) : (lvls rows losses h s L c).length = rows.length * L := by simp [lvls]
theorem num_eq (hr : RasOK rows L) {a b : Int} (h : inP rows L a b) : w64 ((w64 (a * (L : Int))) + b) = ((a.toNat * L + b.toNat : Nat) : Int) ∧ a.toNat * L + b.toNat < rows.length * L ∧ (a.toNat * L + b.toNat) / L = a.toNat ∧ (a.toNat * L + b.toNat) % L = b.toNat := by
 obtain ⟨⟨h1, h2⟩, h3, h4⟩ := h
 have hp := pts_le hr
 have hlt : a.toNat * L + b.toNat < rows.length * L := by
  have : (a.toNat + 1) * L ≤ rows.length * L := Nat.mul_le_mul_right _ (by omega)
  rw [Nat.add_mul, Nat.one_mul] at this
  omega
 have he : a * (L : Int) = ((a.toNat * L : Nat) : Int) := by rw [Int.natCast_mul, Int.toNat_of_nonneg h1]
 refine ⟨?_, hlt, ?_, ?_⟩
 · rw [he, j6 (n := ((a.toNat * L : Nat) : Int)) (by omega), j6 (by omega)]; omega
 · rw [Nat.add_comm, Nat.add_mul_div_right _ _ (by omega), Nat.div_eq_of_lt (by omega)]; omega
 · rw [Nat.add_comm, Nat.add_mul_mod_self_right, Nat.mod_eq_of_lt (by omega)]
theorem lvls_at (hr : RasOK rows L) (losses : List (Int × Int)) (h s : Int) (c : m9) {a b : Int} (hp : inP rows L a b) : (lvls rows losses h s L c).getD (a.toNat * L + b.toNat) default = levV rows losses h s c a b := by
 obtain ⟨_, h2, h3, h4⟩ := num_eq hr hp
 rw [j2 (by rw [lvls_len]; exact h2)]
 simp only [lvls, List.getElem_map, List.getElem_range, h3, h4]
 rw [Int.toNat_of_nonneg hp.1.1, Int.toNat_of_nonneg hp.2.1]

theorem sqV_comm (hr : RasOK rows L) {a0 a1 b0 b1 : Int} (ha : inP rows L a0 a1) (hb : inP rows L b0 b1) : sqV b0 b1 a0 a1 = sqV a0 a1 b0 b1 := by
 have hb0 := hr.n12
 have hb1 := hr.l12
 obtain ⟨⟨_, _⟩, _, _⟩ := ha
 obtain ⟨⟨_, _⟩, _, _⟩ := hb
 unfold sqV
 rw [j6 (n := b0 - a0) (by omega), j6 (n := b1 - a1) (by omega), j6 (n := a0 - b0) (by omega), j6 (n := a1 - b1) (by omega)]
 rw [show b0 - a0 = -(a0 - b0) by omega, show b1 - a1 = -(a1 - b1) by omega, Int.neg_mul_neg, Int.neg_mul_neg]
theorem RefLevel_eq {N : Nat} (hM : N ≤ 20000) (hN : 20 < N) (hr : RasOK rows L) {cells : List m9} {losses : List (Int × Int)} (hlo : losses.length < N) (h s l : Int) {i : Nat} (hi : i < cells.length) (hc : inP rows L cells[i].2.2.1 cells[i].2.2.2.1) {a b : Int} (hp : inP rows L a b) :
  ref09_LevelAt N rows cells losses h s l (i : Int) a b = some (levV rows losses h s cells[i] a b) := by
 unfold ref09_LevelAt
 rw [d7 (by omega)]
 simp only [jn]
 refine (u3 losses.length _ (fun k => if idxF (lossP (sqV cells[i].2.2.1 cells[i].2.2.2.1 a b)) k (losses.drop k) < 0 then some ((0 : Int), false) else some (if seesV rows cells[i].2.2.1 cells[i].2.2.2.1 cells[i].2.2.2.2.1 a b = true then w64 ((w64 (cells[i].2.2.2.2.2.1 - (losses.getD (idxF (lossP (sqV cells[i].2.2.1 cells[i].2.2.2.1 a b)) k (losses.drop k)).toNat default).2)) - (w64 (s * szV (w64 ((w64 ((12 : Int) - cells[i].2.2.2.2.2.2)) - stepV cells[i].2.2.1 cells[i].2.2.2.1 a b))))) else w64 (w64 ((w64 (cells[i].2.2.2.2.2.1 - (losses.getD (idxF (lossP (sqV cells[i].2.2.1 cells[i].2.2.2.1 a b)) k (losses.drop k)).toNat default).2)) - (w64 (s * szV (w64 ((w64 ((12 : Int) - cells[i].2.2.2.2.2.2)) - stepV cells[i].2.2.1 cells[i].2.2.2.1 a b))))) - h), true)) (fun k rec hk hrec => ?_) (fun rec => ?_) hlo).trans ?_
 ·
  simp only [t0, Int.toNat_natCast]
  simp only [j2 hi, j2 hk]
  rw [f9 (by simpa using hk), d7 (by omega), k5 (by omega), hrec, List.drop_eq_getElem_cons hk, idxF]
  rw [show (w64 ((w64 ((w64 (a - cells[i].2.2.1)) * (w64 (a - cells[i].2.2.1)))) + (w64 ((w64 (b - cells[i].2.2.2.1)) * (w64 (b - cells[i].2.2.2.1)))))) = sqV cells[i].2.2.1 cells[i].2.2.2.1 a b from sqV_comm hr hc hp]
  by_cases h1 : losses[k].1 < sqV cells[i].2.2.1 cells[i].2.2.2.1 a b
  ·
   have : lossP (sqV cells[i].2.2.1 cells[i].2.2.2.1 a b) losses[k] = false := by unfold lossP; simp; omega
   rw [f9 (by simpa using h1), this]; rfl
  ·
   have : lossP (sqV cells[i].2.2.1 cells[i].2.2.2.1 a b) losses[k] = true := by unfold lossP; simp; omega
   rw [i4 (by simpa using h1), this, if_pos rfl, if_neg (by omega), d7 (by omega), Steps_eq, d4, show ∀ n, C1 N n = some (szV n) from fun n => rfl, d4, RefSees_eq hN hr cells[i].1 cells[i].2.1 hc hp, d4]
   simp only [Int.toNat_natCast, j2 hk]
   cases seesV rows cells[i].2.2.1 cells[i].2.2.2.1 cells[i].2.2.2.2.1 a b <;> rfl
 ·
  simp only [t0]
  rw [i4 (by simp)]
  simp [idxF]
 ·
  simp only [List.drop_zero]
  unfold levV sumV
  split
  · rfl
  · rfl
end

def srvF : Nat → List Lv → Int × Int × Bool → Int × Int × Bool
 | _, [], st => st
 | k, x :: l, st => srvF (k + 1) l (if (x.2 && (!st.2.2 || decide (x.1 > st.2.1))) = true then ((k : Int), x.1, x.2) else st)
theorem srvF_alike : ∀ (l : List Lv) (k : Nat) (c c' m : Int) (b : Bool), (srvF k l (c, m, b)).2 = (srvF k l (c', m, b)).2 ∧ (b = false → (srvF k l (c, m, b)).2.2 = true → (srvF k l (c, m, b)).1 = (srvF k l (c', m, b)).1)
 | [], k, c, c', m, b => by
  refine ⟨rfl, fun hb h => ?_⟩
  simp only [srvF] at h
  rw [hb] at h; cases h
 | x :: l, k, c, c', m, b => by
  simp only [srvF]
  by_cases h : (x.2 && (!b || decide (x.1 > m))) = true
  · simp [h]
  · simp only [h, Bool.false_eq_true, if_false]; exact srvF_alike l (k + 1) c c' m b
theorem server_eq {N : Nat} (hM : N ≤ 20000) {lv : List (List Lv)} (hlv : lv.length < N) {n : Nat} (hn : ∀ l ∈ lv, n < l.length) (rows : Rows) (cells : List m9) (losses : List (Int × Int)) (h s l w : Int) :
  plan_field_server N rows cells losses h s l w lv (n : Int) = some (srvF 0 (lv.map fun x => x.getD n default) (-1, 0, false)) := by
 unfold plan_field_server
 simp only [jn]
 refine (rds_spec (b := o2 N lv (n : Int) _) (fun x : Int × Int × Int × Bool => ∃ k : Nat, k ≤ lv.length ∧ x.2.1 = k) (fun x => lv.length - x.2.1.toNat) (fun x => some (srvF x.2.1.toNat ((lv.drop x.2.1.toNat).map fun x => x.getD n default) (x.1, x.2.2.1, x.2.2.2))) (fun rec x hI hrec => ?_) N _ ⟨0, Nat.zero_le _, rfl⟩ (by simp; omega)).trans (by simp)
 obtain ⟨c, t, m, b⟩ := x
 obtain ⟨k, hk, ht⟩ := hI
 simp only at ht
 subst ht
 simp only [o2, Int.toNat_natCast]
 by_cases hkl : k < lv.length
 ·
  have hm := hn _ (List.getElem_mem hkl)
  simp only [j2 hkl]
  rw [f9 (by simpa using hkl), d7 (by omega), d7 (by omega), d7 (by intro _; omega), List.drop_eq_getElem_cons hkl, List.map_cons, srvF, d7 (by omega), k5 (by omega), hrec (_, ((k + 1 : Nat) : Int), _, _) ⟨k + 1, hkl, rfl⟩ (by simp; omega), hrec (_, ((k + 1 : Nat) : Int), _, _) ⟨k + 1, hkl, rfl⟩ (by simp; omega)]
  simp only [Int.toNat_natCast]
  by_cases hc : ((lv[k].getD n default).2 && (!b || decide ((lv[k].getD n default).1 > m))) = true
  · rw [f9 hc, if_pos hc]
  · rw [i4 (by simpa using hc), if_neg hc]
 ·
  have : k = lv.length := by omega
  subst this
  rw [i4 (by simp)]
  simp [srvF]
def onL (on : List Bool) (f : m9 → Lv) (cells : List m9) : List Lv := (List.range cells.length).map fun i => ((f (cells.getD i default)).1, on.getD i default && (f (cells.getD i default)).2)
theorem onL_all {on : List Bool} {f : m9 → Lv} {cells : List m9} (h : ∀ i, i < cells.length → on.getD i default = true) : onL on f cells = cells.map f := by
 refine List.ext_getElem (by simp [onL]) fun k h1 h2 => ?_
 have hk : k < cells.length := by simpa using h2
 simp only [onL, List.getElem_map, List.getElem_range, j2 hk, h k hk, Bool.true_and]
theorem RefServer_eq {rows : Rows} {L : Nat} {N : Nat} (hM : N ≤ 20000) (hN : 20 < N) {cells : List m9} {losses : List (Int × Int)} (hp : PlanOK rows cells losses L) (h s l : Int) {on : List Bool} (hon : on.length = cells.length) {a b : Int} (hab : inP rows L a b) :
  ref09_ServerAt N rows cells losses h s l on a b = some (srvF 0 (onL on (fun c => levV rows losses h s c a b) cells) (0, 0, false)) := by
 have h6 := hp.c6
 have h12 := hp.l12
 unfold ref09_ServerAt
 simp only [jn]
 refine (rds_spec (b := q5 N rows cells losses h s l on a b _) (fun x : Int × Int × Bool × Int => ∃ k : Nat, k ≤ cells.length ∧ x.2.2.2 = k) (fun x => cells.length - x.2.2.2.toNat) (fun x => some (srvF x.2.2.2.toNat ((onL on (fun c => levV rows losses h s c a b) cells).drop x.2.2.2.toNat) (x.1, x.2.1, x.2.2.1))) (fun rec x hI hrec => ?_) N _ ⟨0, Nat.zero_le _, rfl⟩ (by simp; omega)).trans (by simp)
 obtain ⟨c, m, bo, t⟩ := x
 obtain ⟨k, hk, ht⟩ := hI
 simp only at ht
 subst ht
 simp only [q5, Int.toNat_natCast]
 have hlen : (onL on (fun c => levV rows losses h s c a b) cells).length = cells.length := by simp [onL]
 by_cases hkl : k < cells.length
 ·
  rw [f9 (by simpa using hkl), RefLevel_eq hM hN hp.ras (by omega) h s l hkl (hp.at_ _ (List.getElem_mem hkl)) hab, d4]
  try simp only
  rw [d7 (by omega), List.drop_eq_getElem_cons (by omega), srvF, k5 (by omega), hrec (_, _, _, ((k + 1 : Nat) : Int)) ⟨k + 1, hkl, rfl⟩ (by simp; omega), hrec (_, _, _, ((k + 1 : Nat) : Int)) ⟨k + 1, hkl, rfl⟩ (by simp; omega)]
  simp only [Int.toNat_natCast, onL, List.getElem_map, List.getElem_range, j2 hkl]
  by_cases hc : ((on.getD k default && (levV rows losses h s cells[k] a b).2) && (!bo || decide ((levV rows losses h s cells[k] a b).1 > m))) = true
  ·
   rw [f9 hc, if_pos hc]
   simp only [Bool.and_eq_true] at hc
   rw [hc.1.1, hc.1.2]; rfl
  · rw [i4 (by simpa using hc), if_neg hc]
 ·
  have : k = cells.length := by omega
  subst this
  rw [i4 (by simp), show (onL on (fun c => levV rows losses h s c a b) cells).drop cells.length = [] by rw [List.drop_eq_nil_iff]; omega]
  simp [srvF]
end Go.Sh

/-
 The law of levels: the level of a cell at a point, and the server of the point.
-/
namespace Go.Sh
open Go.PW

structure FewOK (rows : Rows) (cells : List m9) (losses : List (Int × Int)) : Prop where
 r14 : rows.length ≤ 14
 row14 : ∀ row ∈ rows, row.length ≤ 14
 c8 : cells.length ≤ 8
 l14 : losses.length ≤ 14
 names : ∀ c ∈ cells, c.1.size ≤ 20
noncomputable def fewB (rows : Rows) (cells : List m9) (losses : List (Int × Int)) : Bool :=
 !(((((!(!badL rows.length && rows.all fun r => !badL r.length)) || ((decide ((cells.length : Int) > (3 : Int))) && (decide ((cells.length : Int) ≤ (6 : Int))))) || (decide ((cells.length : Int) > (8 : Int)))) || ((decide ((losses.length : Int) > (5 : Int))) && (decide ((losses.length : Int) ≤ (12 : Int))))) || (decide ((losses.length : Int) > (14 : Int)))) && cells.all fun c => !decide ((c.1.size : Int) > 20)
theorem Few_eq {N : Nat} (hM : N ≤ 20000) (hN : 20 < N) (rows : Rows) (cells : List m9) (losses : List (Int × Int)) (h s l : Int) : law09_Few N rows cells losses h s l = some (fewB rows cells losses) := by
 unfold law09_Few fewB
 rw [raster_eq hM hN, d4]
 cases hb : (((((!(!badL rows.length && rows.all fun r => !badL r.length)) || ((decide ((cells.length : Int) > (3 : Int))) && (decide ((cells.length : Int) ≤ (6 : Int))))) || (decide ((cells.length : Int) > (8 : Int)))) || ((decide ((losses.length : Int) > (5 : Int))) && (decide ((losses.length : Int) ≤ (12 : Int))))) || (decide ((losses.length : Int) > (14 : Int)))) with
 | true => rfl
 | false =>
  rw [i4 rfl]
  have hc : cells.length ≤ 8 := by
   simp only [Bool.or_eq_false_iff, decide_eq_false_iff_not] at hb; omega
  simp only [jn]
  refine (u3 cells.length _ (fun k => some ((cells.drop k).all fun c => !decide ((c.1.size : Int) > 20))) (fun k rec hk hr => ?_) (fun rec => ?_) (show cells.length < N by omega)).trans (by simp)
  ·
   simp only [law09_Few.b1]
   rw [f9 (by simpa using hk), d7 (by omega), List.drop_eq_getElem_cons hk, k5 (by omega), hr]
   simp only [Int.toNat_natCast, j2 hk, List.all_cons]
   cases decide ((cells[k].1.size : Int) > 20) <;> simp [br]
  · simp [law09_Few.b1, br]
theorem fewOK_of {rows : Rows} {cells : List m9} {losses : List (Int × Int)} (h : fewB rows cells losses = true) : FewOK rows cells losses := by
 unfold fewB at h
 simp only [Bool.and_eq_true, Bool.not_eq_true', Bool.or_eq_false_iff, Bool.not_eq_false', decide_eq_false_iff_not, List.all_eq_true] at h
 obtain ⟨⟨⟨⟨⟨⟨h1, h2⟩, h3⟩, h4⟩, h5⟩, h6⟩, h7⟩ := h
 exact ⟨badL_le h1, fun row hr => badL_le (by simpa using h2 row hr), by omega, by omega, fun c hc => by have := h7 c hc; omega⟩
theorem Copy_eq {N : Nat} (hM : N ≤ 20000) (hN : 20 < N) {rows : Rows} {cells : List m9} {losses : List (Int × Int)} (hf : FewOK rows cells losses) (h s l : Int) : ref09_Copy N rows cells losses h s l = some (rows, cells, losses, h, s, l) := by
 unfold ref09_Copy
 have := hf.r14
 have := hf.c8
 have := hf.l14
 rw [CopyRaster_eq hM (by omega) (fun row hr => by have := hf.row14 row hr; omega), d4, d7 (by omega), d7 (by omega)]
section
variable {rows : Rows} {cells : List m9} {losses : List (Int × Int)} {N : Nat}
theorem fewErr_eq (hM : N ≤ 20000) (hN : 20 < N) (hf : FewOK rows cells losses) (h s l : Int) : plan_planErr N rows cells losses h s l = some (planE rows cells losses h s l) := by
 have := hf.r14
 have := hf.c8
 have := hf.l14
 exact planErr_eq hM hN (by omega) (fun row hr => by have := hf.row14 row hr; omega) (by omega) (fun c hc => by have := hf.names c hc; omega) (by omega) h s l
theorem fewErr_eq' (hM : N ≤ 20000) (hN : 20 < N) (hf : FewOK rows cells losses) (h s l : Int) : ref09_PlanErr N rows cells losses h s l = some (planE rows cells losses h s l) := by
 have := hf.r14
 have := hf.c8
 have := hf.l14
 exact PlanErr_eq hM hN (by omega) (by omega) (by omega) h s l
end

theorem Has_eq {N : Nat} (hM : N ≤ 20000) (l : List Int) (n : Int) (h : l.length < N) : base_Has N l n = some (l.any fun x => x == n) := by
 unfold base_Has
 simp only [jn]
 refine (u3 l.length _ (fun k => some ((l.drop k).any fun x => x == n)) (fun k rec hk hr => ?_) (fun rec => ?_) h).trans (by simp)
 ·
  simp only [base_Has.b1]
  rw [f9 (by simpa using hk), d7 (by omega), List.drop_eq_getElem_cons hk, List.any_cons, k5 (by omega), hr, Int.toNat_natCast, j2 hk]
  cases l[k] == n <;> simp [br]
 · simp [base_Has.b1, br]
def withoutL (n : Nat) (set : List Int) : List Bool := (List.range n).map fun i : Nat => !(set.any fun x => x == (i : Int))
theorem Without_eq {N : Nat} (hM : N ≤ 20000) (rows : Rows) {cells : List m9} (hc : cells.length < N) (losses : List (Int × Int)) (h s l : Int) {set : List Int} (hs : set.length < N) : ref09_Without N rows cells losses h s l set = some (withoutL cells.length set) := by
 unfold ref09_Without
 simp only [jn]
 refine (rds_map cells.length (fun i : Nat => !(set.any fun x => x == (i : Int))) _ (fun l => some l) (fun k acc rec hk ha => ?_) (fun acc rec ha => ?_) hc).trans rfl
 ·
  simp only [s6]
  rw [f9 (by simpa using hk), Has_eq hM _ _ hs, d4, d7 (by simp; omega), k5 (by omega)]
 · simp [s6, br]
theorem without_nil (n : Nat) : (withoutL n []).length = n ∧ ∀ i, i < n → (withoutL n []).getD i default = true := by
 refine ⟨by simp [withoutL], fun i hi => ?_⟩
 rw [j2 (by simpa [withoutL] using hi)]
 simp [withoutL]

section
variable {rows : Rows} {cells : List m9} {losses : List (Int × Int)} {L : Nat} {N : Nat}
noncomputable def srvA (rows : Rows) (cells : List m9) (losses : List (Int × Int)) (h s a b : Int) (c0 : Int) : Int × Int × Bool := srvF 0 (cells.map fun c => levV rows losses h s c a b) (c0, 0, false)
theorem srvA_eq {rows : Rows} {cells : List m9} {losses : List (Int × Int)} {h s a b : Int} :
  (srvA rows cells losses h s a b (-1)).2 = (srvA rows cells losses h s a b 0).2 ∧ ((srvA rows cells losses h s a b (-1)).2.2 = true → (srvA rows cells losses h s a b (-1)).1 = (srvA rows cells losses h s a b 0).1) :=
 ⟨(srvF_alike _ 0 (-1) 0 0 false).1, (srvF_alike _ 0 (-1) 0 0 false).2 rfl⟩
theorem allLv_len (h s : Int) : (allLv rows cells losses h s L).length = cells.length := by simp [allLv]
theorem server_at (hM : N ≤ 20000) (hN : 200 < N) (hp : PlanOK rows cells losses L) (h s l w : Int) {a b : Int} (hab : inP rows L a b) :
  plan_field_server N rows cells losses h s l w (allLv rows cells losses h s L) ((a.toNat * L + b.toNat : Nat) : Int) = some (srvA rows cells losses h s a b (-1)) := by
 have := hp.c6
 rw [server_eq hM (by rw [allLv_len]; omega) (fun x hx => by
  obtain ⟨c, _, rfl⟩ := List.mem_map.1 hx
  rw [lvls_len]; exact (num_eq hp.ras hab).2.1)]
 unfold srvA allLv
 rw [List.map_map]
 congr 2
 refine List.map_congr_left fun c _ => ?_
 exact lvls_at hp.ras losses h s c hab
end
end Go.Sh

/-
 The law of holes: all holes, and how many covered points each cell serves; both together are all points.
-/
namespace Go.Sh
open Go.PW

section
variable {rows : Rows} {L : Nat}
end

section
variable {rows : Rows} {cells : List m9} {losses : List (Int × Int)} {L : Nat} {N : Nat}
end
end Go.Sh

/-
 The law of neighbours: the neighbours of a plan; with a greater margin no pair is missing.
-/
namespace Go.Sh
open Go.PW

section
variable {rows : Rows} {cells : List m9} {losses : List (Int × Int)} {L : Nat} {N : Nat}
end
end Go.Sh

/-
 The law of drives: how measurements differ from predictions.
-/
namespace Go.Sh
open Go.PW

structure PlanNum (cells : List m9) (losses : List (Int × Int)) (h s : Int) : Prop where
 pow : ∀ c ∈ cells, -2000 ≤ c.2.2.2.2.2.1 ∧ c.2.2.2.2.2.1 ≤ 1000
 tilt : ∀ c ∈ cells, 0 ≤ c.2.2.2.2.2.2 ∧ c.2.2.2.2.2.2 ≤ 11
 loss : ∀ l ∈ losses, 0 ≤ l.2 ∧ l.2 ≤ 3000
 hid : 0 ≤ h ∧ h ≤ 3000
 step : 0 ≤ s ∧ s ≤ 100
theorem lossE_zero : ∀ {losses : List (Int × Int)} {last : Int}, lossE last losses = 0 → ∀ l ∈ losses, 0 ≤ l.2 ∧ l.2 ≤ 3000
 | [], _, _, l, hl => by simp at hl
 | x :: r, last, h, l, hl => by
  simp only [lossE] at h
  split at h
  · exact absurd h (by decide)
  ·
   rename_i h1
   split at h
   · exact absurd h (by decide)
   ·
    rcases List.mem_cons.1 hl with e | hl'
    ·
     subst e
     simp only [Bool.and_eq_false_iff, not_or, Bool.not_eq_false, inB_true] at h1
     exact h1.2
    · exact lossE_zero h l hl'
theorem planNum_of {rows : Rows} {cells : List m9} {losses : List (Int × Int)} {h s l : Int} (he : planE rows cells losses h s l = 0) : PlanNum cells losses h s := by
 unfold planE at he
 split at he
 · rename_i h1; exact absurd he h1
 split at he
 · exact absurd he (by decide)
 split at he
 · exact absurd he (by decide)
 split at he
 · rename_i h2; exact absurd he h2
 rename_i h2
 split at he
 · exact absurd he (by decide)
 split at he
 · exact absurd he (by decide)
 split at he
 · rename_i h3; exact absurd he h3
 rename_i h3
 have hc := cellsE_zero (Classical.not_not.1 h2)
 have hn : ∀ c ∈ cells, numE c.2.2.2.2.1 c.2.2.2.2.2.1 c.2.2.2.2.2.2 = 0 := fun c hcm => by
  have := hc c hcm
  unfold cE cellE at this
  simp only [l4] at this
  split at this
  · rename_i h4; exact absurd this h4
  split at this
  · rename_i h4; exact absurd this h4
  split at this
  · rename_i h4; exact absurd this h4
  split at this
  · rename_i h4; exact absurd this h4
  · rename_i h4; exact Classical.not_not.1 h4
 have hn' : ∀ c ∈ cells, (-2000 ≤ c.2.2.2.2.2.1 ∧ c.2.2.2.2.2.1 ≤ 1000) ∧ 0 ≤ c.2.2.2.2.2.2 ∧ c.2.2.2.2.2.2 ≤ 11 := fun c hcm => by
  have := hn c hcm
  unfold numE at this
  split at this
  ·
   rename_i h4
   simp only [Bool.and_eq_true, inB_true] at h4
   exact ⟨h4.1.2, h4.2⟩
  · exact absurd this (by decide)
 unfold lastE at he
 split at he
 ·
  rename_i h5
  simp only [Bool.and_eq_true, inB_true] at h5
  exact ⟨fun c hcm => (hn' c hcm).1, fun c hcm => (hn' c hcm).2, lossE_zero (Classical.not_not.1 h3), h5.1.1, h5.1.2⟩
 · exact absurd he (by decide)
section
variable {rows : Rows} {cells : List m9} {losses : List (Int × Int)} {L : Nat} {N : Nat}
theorem levV_bd {h s : Int} (hr : RasOK rows L) (hn : PlanNum cells losses h s) {c : m9} (hc : c ∈ cells) (hci : inP rows L c.2.2.1 c.2.2.2.1) {a b : Int} (hab : inP rows L a b) : -10000 ≤ (levV rows losses h s c a b).1 ∧ (levV rows losses h s c a b).1 ≤ 1000 := by
 have hb0 := hr.n12
 have hb1 := hr.l12
 have hp := hn.pow c hc
 have ht := hn.tilt c hc
 have hs := stepV_bd (a0 := c.2.2.1) (a1 := c.2.2.2.1) (b0 := a) (b1 := b) (by have := hci.1; have := hab.1; omega) (by have := hci.2; have := hab.2; omega)
 unfold levV
 split
 · simp
 ·
  rename_i hi
  have hix := idxF_lt (lossP (sqV c.2.2.1 c.2.2.2.1 a b)) losses 0
  have hl := hn.loss (losses.getD (idxF (lossP (sqV c.2.2.1 c.2.2.2.1 a b)) 0 losses).toNat default) (by rw [j2 (by omega)]; exact List.getElem_mem _)
  have hz := szV_bd (n := (12 - c.2.2.2.2.2.2) - stepV c.2.2.1 c.2.2.2.1 a b) (by omega)
  have hm := mul_bd (a := s) (b := szV (w64 ((12 - c.2.2.2.2.2.2) - stepV c.2.2.1 c.2.2.2.1 a b))) (A := 100) (B := 12) (by have := hn.step; omega) (by omega)
  have hm0 : 0 ≤ s * szV (w64 ((12 - c.2.2.2.2.2.2) - stepV c.2.2.1 c.2.2.2.1 a b)) := Int.mul_nonneg hn.step.1 hz.1
  have hsum : -6200 ≤ sumV losses s c a b ∧ sumV losses s c a b ≤ 1000 := by
   unfold sumV
   rw [j6 (n := 12 - c.2.2.2.2.2.2) (by omega)]
   generalize (losses.getD (idxF (lossP (sqV c.2.2.1 c.2.2.2.1 a b)) 0 losses).toNat default).2 = lo at hl
   generalize s * szV (w64 ((12 - c.2.2.2.2.2.2) - stepV c.2.2.1 c.2.2.2.1 a b)) = z at hm hm0
   rw [j6 (n := c.2.2.2.2.2.1 - lo) (by omega), j6 (n := z) (by omega), j6 (by omega)]
   omega
  have hh := hn.hid
  split
  · exact ⟨by simp only; omega, hsum.2⟩
  ·
   simp only
   rw [j6 (by omega)]; omega
theorem srvF_bd : ∀ (l : List Lv) (k : Nat) (st : Int × Int × Bool), (∀ x ∈ l, -10000 ≤ x.1 ∧ x.1 ≤ 1000) → -10000 ≤ st.2.1 ∧ st.2.1 ≤ 1000 → -10000 ≤ (srvF k l st).2.1 ∧ (srvF k l st).2.1 ≤ 1000
 | [], k, st, _, h => h
 | x :: l, k, st, hl, h => by
  simp only [srvF]
  refine srvF_bd l (k + 1) _ (fun y hy => hl y (by simp [hy])) ?_
  split
  · exact hl x (by simp)
  · exact h

theorem gcd_loop {R : Type} {b : (Int × Int → Option R) → Int × Int → Option R} {K : Int → Option R} {v : Nat → Option R} (P : Int → Prop) (hK : ∀ x, P x → K x = v x.natAbs) (hP : ∀ a c, P a → P c → c ≠ 0 → P (a.tmod c))
  (hb : ∀ rec a c, b rec (a, c) = br (c != 0) (chk (c ≠ 0) (rec (c, a.tmod c))) (K a)) : ∀ k M a c, P a → P c → c.natAbs < 2 ^ k → 2 * k + 1 ≤ M → rds b M (a, c) = v (Nat.gcd a.natAbs c.natAbs)
 | 0, M, a, c, ha, hc, hk, hM => by
  have h0 : c = 0 := by simp at hk; omega
  subst h0
  obtain ⟨M, rfl⟩ : ∃ m, M = m + 1 := ⟨M - 1, by omega⟩
  rw [rds_succ, hb, i4 (by rfl), hK a ha]
  simp
 | k + 1, M, a, c, ha, hc, hk, hM => by
  obtain ⟨M, rfl⟩ : ∃ m, M = m + 1 + 1 := ⟨M - 2, by omega⟩
  rw [rds_succ, hb]
  by_cases h0 : c = 0
  ·
   subst h0
   rw [i4 (by rfl), hK a ha]; simp
  ·
   rw [f9 (by simpa using h0), d7 h0, rds_succ, hb]
   have h1 : (a.tmod c).natAbs = a.natAbs % c.natAbs := Int.natAbs_tmod a c
   have hp1 := hP a c ha hc h0
   have hg : Nat.gcd a.natAbs c.natAbs = Nat.gcd c.natAbs (a.natAbs % c.natAbs) := by
    rw [Nat.gcd_comm, Nat.gcd_rec, Nat.gcd_comm]
   by_cases h2 : a.tmod c = 0
   · rw [h2, i4 (by rfl), hK c hc, hg, ← h1, h2]; simp
   ·
    rw [f9 (by simpa using h2), d7 h2]
    have h3 : (c.tmod (a.tmod c)).natAbs = c.natAbs % (a.tmod c).natAbs := Int.natAbs_tmod c (a.tmod c)
    rw [gcd_loop P hK hP hb k M (a.tmod c) (c.tmod (a.tmod c)) hp1 (hP c _ hc hp1 h2) ?_ (by omega), h3, hg, ← h1]
    ·
     congr 1
     exact (Nat.gcd_comm _ _).trans ((Nat.gcd_rec _ _).symm.trans (Nat.gcd_comm _ _))
    ·
     rw [h3]
     have hlt : (a.tmod c).natAbs < c.natAbs := by rw [h1]; exact Nat.mod_lt _ (by omega)
     have hpos : 0 < (a.tmod c).natAbs := by omega
     have h4 := Nat.mod_lt c.natAbs hpos
     have h5 := Nat.div_add_mod c.natAbs (a.tmod c).natAbs
     have h6 : 1 ≤ c.natAbs / (a.tmod c).natAbs := (Nat.le_div_iff_mul_le hpos).2 (by omega)
     have h7 : (a.tmod c).natAbs * 1 ≤ (a.tmod c).natAbs * (c.natAbs / (a.tmod c).natAbs) := Nat.mul_le_mul_left _ h6
     rw [Nat.pow_succ] at hk
     omega

abbrev DrT := Int × Int × Int
noncomputable def driveF (rows : Rows) : List DrT → Int
 | [] => 0
 | x :: r => if pointE rows x.1 x.2.1 ≠ 0 then pointE rows x.1 x.2.1 else if inB x.2.2 (-2000) 1000 = false then 2 else driveF rows r
noncomputable def driveE (rows : Rows) (d : List DrT) : Int := if d.length = 0 then 10 else if 60 < d.length then 8 else driveF rows d
abbrev StD := Int × Int × Int × Int × Int
noncomputable def stD (l : Int) (x : Int × Int × Bool) (v : Int) (st : StD) : StD :=
 if x.2.2 = false then st else
  (w64 (st.1 + w64 (v - x.2.1)), w64 (st.2.1 + 1),
   (if w64 (v - x.2.1) < (if (st.2.1 == 0) = true then w64 (v - x.2.1) else st.2.2.1) then w64 (v - x.2.1) else (if (st.2.1 == 0) = true then w64 (v - x.2.1) else st.2.2.1)),
   (if (if (st.2.1 == 0) = true then w64 (v - x.2.1) else st.2.2.2.1) < w64 (v - x.2.1) then w64 (v - x.2.1) else (if (st.2.1 == 0) = true then w64 (v - x.2.1) else st.2.2.2.1)),
   (if (decide (v < l) && decide (x.2.1 ≥ l)) = true then w64 (st.2.2.2.2 + 1) else st.2.2.2.2))
noncomputable def foldD (rows : Rows) (cells : List m9) (losses : List (Int × Int)) (h s l : Int) : List DrT → StD → StD
 | [], st => st
 | x :: r, st => foldD rows cells losses h s l r (stD l (srvA rows cells losses h s x.1 x.2.1 0) x.2.2 st)
noncomputable def gV (st : StD) : Int := ((Nat.gcd st.2.1.natAbs st.1.natAbs : Nat) : Int)
noncomputable def endD (st : StD) : Int × Int × Int × Int × Int × Int := if st.2.1 = 0 then (0, 0, 0, 0, 0, 12) else (st.2.2.1, st.2.2.2.1, w64 (st.1.tdiv (gV st)), w64 (st.2.1.tdiv (gV st)), st.2.2.2.2, 0)
theorem driveF_zero : ∀ {d : List DrT}, driveF rows d = 0 → ∀ x ∈ d, pointE rows x.1 x.2.1 = 0 ∧ -2000 ≤ x.2.2 ∧ x.2.2 ≤ 1000
 | [], _, x, hx => by simp at hx
 | y :: r, h, x, hx => by
  simp only [driveF] at h
  split at h
  · rename_i h1; exact absurd h h1
  rename_i h1
  split at h
  · exact absurd h (by decide)
  rename_i h2
  rcases List.mem_cons.1 hx with e | hx'
  ·
   subst e
   exact ⟨Classical.not_not.1 h1, by simpa [inB_true] using h2⟩
  · exact driveF_zero h x hx'
theorem foldD_bd {h s l : Int} (hp : PlanOK rows cells losses L) (hn : PlanNum cells losses h s) : ∀ (d : List DrT) (st : StD) (k : Nat), (∀ x ∈ d, pointE rows x.1 x.2.1 = 0 ∧ -2000 ≤ x.2.2 ∧ x.2.2 ≤ 1000) → k + d.length ≤ 100 →
  (-(12000 * (k : Int)) ≤ st.1 ∧ st.1 ≤ 12000 * (k : Int)) → (0 ≤ st.2.1 ∧ st.2.1 ≤ (k : Int)) →
  (-1200000 ≤ (foldD rows cells losses h s l d st).1 ∧ (foldD rows cells losses h s l d st).1 ≤ 1200000) ∧ 0 ≤ (foldD rows cells losses h s l d st).2.1 ∧ (foldD rows cells losses h s l d st).2.1 ≤ 100
 | [], st, k, _, hk, h1, h2 => by simp only [foldD]; simp at hk; omega
 | x :: r, st, k, hd, hk, h1, h2 => by
  simp only [foldD]
  have hx := hd x (by simp)
  simp only [List.length_cons] at hk
  have hin := point_zero hp.ras hx.1
  have hs : -10000 ≤ (srvA rows cells losses h s x.1 x.2.1 0).2.1 ∧ (srvA rows cells losses h s x.1 x.2.1 0).2.1 ≤ 1000 := by
   unfold srvA
   refine srvF_bd _ _ _ (fun y hy => ?_) (by simp)
   obtain ⟨c, hc, rfl⟩ := List.mem_map.1 hy
   exact levV_bd hp.ras hn hc (hp.at_ c hc) hin
  refine foldD_bd hp hn r _ (k + 1) (fun y hy => hd y (by simp [hy])) (by omega) ?_ ?_
  ·
   unfold stD
   split
   · omega
   ·
    simp only
    rw [j6 (n := x.2.2 - (srvA rows cells losses h s x.1 x.2.1 0).2.1) (by omega), j6 (by omega)]; omega
  ·
   unfold stD
   split
   · omega
   ·
    simp only
    rw [j6 (by omega)]; omega
theorem lvG (N : Nat) (rows : Rows) (cells : List m9) (losses : List (Int × Int)) (h s l : Int) (K : List (List Lv) → Option (Int × Int × Int × Int × Int × Int)) : p9 N rows cells losses h s l K = lvBody N rows cells losses h s l K := rfl
theorem foldD_bd0 {h s l : Int} (hp : PlanOK rows cells losses L) (hn : PlanNum cells losses h s) {d : List DrT} (hd : driveF rows d = 0) (hk : d.length ≤ 62) :
  (-1200000 ≤ (foldD rows cells losses h s l d (0, 0, 0, 0, 0)).1 ∧ (foldD rows cells losses h s l d (0, 0, 0, 0, 0)).1 ≤ 1200000) ∧ 0 ≤ (foldD rows cells losses h s l d (0, 0, 0, 0, 0)).2.1 ∧ (foldD rows cells losses h s l d (0, 0, 0, 0, 0)).2.1 ≤ 100 :=
 foldD_bd hp hn d _ 0 (driveF_zero hd) (by omega) (by simp) (by simp)
theorem szV_abs {n : Int} (h : -100000000 ≤ n ∧ n ≤ 100000000) : szV n = (n.natAbs : Int) := by
 unfold szV
 rw [j6 (n := 0 - n) (by omega)]
 split <;> omega
noncomputable def cmpE (rows : Rows) (cells : List m9) (losses : List (Int × Int)) (h s l : Int) (d : List DrT) : Int := if planE rows cells losses h s l ≠ 0 then planE rows cells losses h s l else driveE rows d
theorem CompareDrive_eq (hM : N ≤ 20000) (hN : 200 < N) (hf : FewOK rows cells losses) (h s l : Int) {d : List DrT} (hdl : d.length ≤ 62) :
  plan_CompareDrive N rows cells losses h s l d = some (if cmpE rows cells losses h s l d ≠ 0 then (0, 0, 0, 0, 0, cmpE rows cells losses h s l d) else endD (foldD rows cells losses h s l d (0, 0, 0, 0, 0))) := by
 unfold plan_CompareDrive cmpE
 rw [fewErr_eq hM (by omega) hf, d4]
 by_cases h1 : planE rows cells losses h s l ≠ 0
 ·
  rw [f9 (bne_t h1), if_pos h1, n7, d4, n7, d4, B9 hM _ (by simp; omega), d4]
  rw [show ∀ z, l4 (planE rows cells losses h s l :: z) = planE rows cells losses h s l from fun z => by rw [l4, if_pos h1], f9 (bne_t h1), if_pos h1]
 rw [i4 (bne_f h1), if_neg h1]
 have h0 := Classical.not_not.1 h1
 have hp := planOK_of h0
 have hn := planNum_of h0
 have hr := hp.ras
 have := hr.n0
 have h14 := hf.r14
 rw [d7 (by omega)]
 simp only [jn]
 rw [lvG, lv_loop hM hN hp, n7, d4, n7, d4, B9 hM _ (by simp; omega), d4]
 rw [show ∀ z, l4 ((0 : Int) :: z) = l4 z from fun z => by simp only [l4, ne_eq, not_true_eq_false, if_false], cnt_eq d.length 60 60 rfl]
 unfold driveE
 by_cases h2 : d.length = 0
 · rw [if_pos h2, f9 (by rfl), if_pos h2, if_pos (by decide)]
 rw [if_neg h2, if_neg h2]
 by_cases h3 : 60 < d.length
 · rw [if_pos h3, f9 (by rfl), if_pos h3, if_pos (by decide)]
 rw [if_neg h3, if_neg h3, i4 (by rfl)]
 generalize hK : (fun (x : Int × Int × Int × Int × Int) => _) = K2
 have hK2 : ∀ st : StD, driveF rows d = 0 → st = foldD rows cells losses h s l d (0, 0, 0, 0, 0) → K2 st = some (endD st) := by
  intro st hd he
  have hbd := foldD_bd0 (l := l) hp hn hd hdl
  rw [← he] at hbd
  subst hK
  obtain ⟨sum, count, lo, hi, mi⟩ := st
  simp only at hbd ⊢
  unfold endD
  by_cases hc : count = 0
  · subst hc; rw [f9 (by rfl), if_pos rfl]
  ·
   rw [i4 (by simpa using hc), if_neg hc, show plan_size N sum = some (szV sum) from rfl, d4, szV_abs (by omega)]
   have hg : 0 < Nat.gcd count.natAbs sum.natAbs := Nat.gcd_pos_of_pos_left _ (by omega)
   refine (gcd_loop (K := fun g => chk (g ≠ 0) (chk (g ≠ 0) (some (lo, hi, w64 (sum.tdiv g), w64 (count.tdiv g), mi, (0 : Int))))) (v := fun g => if 0 < g then some (lo, hi, w64 (sum.tdiv (g : Int)), w64 (count.tdiv (g : Int)), mi, (0 : Int)) else none) (fun x => 0 ≤ x) (fun x hx => ?_) (fun a c ha hc _ => Int.tmod_nonneg c ha) (fun rec a c => rfl) 21 N count (sum.natAbs : Int) (by omega) (by omega) (by simp only [Int.natAbs_natCast]; omega) (by omega)).trans ?_
   ·
    have e : x = (x.natAbs : Int) := by omega
    by_cases hx0 : x = 0
    · subst hx0; rfl
    · rw [d7 hx0, d7 hx0, if_pos (by omega), ← e]
   ·
    simp only [Int.natAbs_natCast]
    rw [if_pos hg]; rfl
 refine (rds_spec (b := o3 N rows cells losses h s l d (allLv rows cells losses h s (rows.getD 0 default).length) K2) (fun x : Int × Int × Int × Int × Int × Int => ∃ k : Nat, k ≤ d.length ∧ x.2.2.1 = k) (fun x => d.length - x.2.2.1.toNat) (fun x => br (driveF rows (d.drop x.2.2.1.toNat) != 0) (some (0, 0, 0, 0, 0, driveF rows (d.drop x.2.2.1.toNat))) (K2 (foldD rows cells losses h s l (d.drop x.2.2.1.toNat) (x.1, x.2.1, x.2.2.2.1, x.2.2.2.2.1, x.2.2.2.2.2)))) (fun rec x hI hrec => ?_) N _ ⟨0, Nat.zero_le _, rfl⟩ (by simp; omega)).trans ?_
 ·
  obtain ⟨sum, count, t, lo, hi, mi⟩ := x
  obtain ⟨k, hk, ht⟩ := hI
  simp only at ht
  subst ht
  simp only [o3, jn, Int.toNat_natCast]
  by_cases hkl : k < d.length
  ·
   rw [f9 (by simpa using hkl), d7 (by omega)]
   simp only [j2 hkl]
   rw [pointErr_eq (by omega), d4]
   unfold p3
   rw [within_eq, d4, d4, n7, d4, B9 hM _ (by simp; omega), d4, List.drop_eq_getElem_cons hkl]
   simp only [driveF, foldD]
   by_cases h4 : pointE rows d[k].1 d[k].2.1 ≠ 0
   · rw [show ∀ z, l4 (pointE rows d[k].1 d[k].2.1 :: z) = pointE rows d[k].1 d[k].2.1 from fun z => by rw [l4, if_pos h4], f9 (bne_t h4), if_pos h4, f9 (bne_t h4)]
   rw [show ∀ z, l4 [pointE rows d[k].1 d[k].2.1, z] = z from fun z => by rw [l4, if_neg h4]; simp only [l4, ne_eq]; split <;> simp_all, if_neg h4]
   cases h5 : inB d[k].2.2 (-2000) 1000 with
   | false => rfl
   | true =>
    rw [if_pos rfl, i4 (by rfl)]
    simp only [Bool.true_eq_false, if_false]
    have hab := point_zero hr (Classical.not_not.1 h4)
    obtain ⟨n1, n2, _, _⟩ := num_eq hr hab
    unfold v6
    rw [n1, d4, server_at hM hN hp h s l _ hab, d4]
    obtain ⟨e2, _⟩ := srvA_eq (rows := rows) (cells := cells) (losses := losses) (h := h) (s := s) (a := d[k].1) (b := d[k].2.1)
    generalize srvA rows cells losses h s d[k].1 d[k].2.1 (-1) = y at e2
    generalize srvA rows cells losses h s d[k].1 d[k].2.1 0 = x at e2
    obtain ⟨y1, y2, y3⟩ := y
    obtain ⟨x1, x2, x3⟩ := x
    simp only [Prod.mk.injEq] at e2
    obtain ⟨rfl, rfl⟩ := e2
    rw [k5 (by omega)]
    cases y3 with
    | false =>
     rw [show (!false) = true from rfl, f9 rfl, hrec (_, _, ((k + 1 : Nat) : Int), _, _, _) ⟨k + 1, hkl, rfl⟩ (by simp only [Int.toNat_natCast]; omega)]
     simp only [Int.toNat_natCast, stD, if_true]
    | true =>
     rw [show (!true) = false from rfl, i4 rfl]
     rw [show v7 N rows cells losses h s l ((rows.getD 0 default).length : Int) (allLv rows cells losses h s (rows.getD 0 default).length) y2 true = some (decide (y2 ≥ l)) from rfl]
     have hgr : ∀ (A B : Option (Int × Int × Int × Int × Int × Int)), bnd (grd (decide (d[k].2.2 < l)) false (some (decide (y2 ≥ l)))) (fun x19 => br ((decide (d[k].2.2 < l)) && x19) A B) = br (decide (d[k].2.2 < l) && decide (y2 ≥ l)) A B := fun A B => by
      cases decide (d[k].2.2 < l) <;> rfl
     simp only [hgr]
     have hst : ∀ b66 b67, br (decide (d[k].2.2 < l) && decide (y2 ≥ l)) (rec (w64 (sum + (w64 (d[k].2.2 - y2))), w64 (count + (1 : Int)), ((k + 1 : Nat) : Int), (if w64 (d[k].2.2 - y2) < b66 then w64 (d[k].2.2 - y2) else b66), (if b67 < w64 (d[k].2.2 - y2) then w64 (d[k].2.2 - y2) else b67), w64 (mi + (1 : Int))))
       (rec (w64 (sum + (w64 (d[k].2.2 - y2))), w64 (count + (1 : Int)), ((k + 1 : Nat) : Int), (if w64 (d[k].2.2 - y2) < b66 then w64 (d[k].2.2 - y2) else b66), (if b67 < w64 (d[k].2.2 - y2) then w64 (d[k].2.2 - y2) else b67), mi)) =
       (br (driveF rows (d.drop (k + 1)) != 0) (some (0, 0, 0, 0, 0, driveF rows (d.drop (k + 1)))) (K2 (foldD rows cells losses h s l (d.drop (k + 1)) (w64 (sum + (w64 (d[k].2.2 - y2))), w64 (count + (1 : Int)), (if w64 (d[k].2.2 - y2) < b66 then w64 (d[k].2.2 - y2) else b66), (if b67 < w64 (d[k].2.2 - y2) then w64 (d[k].2.2 - y2) else b67), (if (decide (d[k].2.2 < l) && decide (y2 ≥ l)) = true then w64 (mi + 1) else mi))))) := fun b66 b67 => by
      rw [hrec (_, _, ((k + 1 : Nat) : Int), _, _, _) ⟨k + 1, hkl, rfl⟩ (by simp only [Int.toNat_natCast]; omega), hrec (_, _, ((k + 1 : Nat) : Int), _, _, _) ⟨k + 1, hkl, rfl⟩ (by simp only [Int.toNat_natCast]; omega)]
      simp only [Int.toNat_natCast]
      cases (decide (d[k].2.2 < l) && decide (y2 ≥ l)) <;> rfl
     rw [hst, hst]
     simp only [stD, Bool.true_eq_false, if_false]
     cases count == 0 <;> rfl
  ·
   have : k = d.length := by omega
   subst this
   rw [i4 (by simp)]
   simp [driveF, foldD]
 ·
  simp only [Int.toNat_zero, List.drop_zero]
  by_cases h6 : driveF rows d ≠ 0
  · rw [f9 (bne_t h6), if_pos h6]
  · rw [i4 (bne_f h6), if_neg h6, hK2 _ (Classical.not_not.1 h6) rfl]
theorem DriveErr_eq (hM : N ≤ 20000) (hN : 200 < N) (hl : rows.length ≤ 1000000000) (h s l : Int) {d : List DrT} (hdl : d.length ≤ 62) : ref09_DriveErr N rows cells losses h s l d = some (driveE rows d) := by
 unfold ref09_DriveErr driveE
 by_cases h2 : d.length = 0
 · rw [f9 (by simp [h2]), if_pos h2]
 rw [i4 (by simpa using h2), if_neg h2]
 by_cases h3 : 60 < d.length
 · rw [f9 (by simp; omega), if_pos h3]
 rw [i4 (by simp; omega), if_neg h3]
 simp only [jn]
 refine (u3 d.length _ (fun k => some (driveF rows (d.drop k))) (fun k rec hk hrec => ?_) (fun rec => ?_) (by omega)).trans (by simp)
 ·
  simp only [q7]
  rw [f9 (by simpa using hk), d7 (by omega)]
  simp only [Int.toNat_natCast, j2 hk]
  rw [PointErr_eq hl, d4, List.drop_eq_getElem_cons hk]
  simp only [driveF]
  by_cases h4 : pointE rows d[k].1 d[k].2.1 ≠ 0
  · rw [f9 (bne_t h4), if_pos h4]
  ·
   rw [i4 (bne_f h4), if_neg h4, d7 (by omega), Within_eq, d4, k5 (by omega), hrec]
   cases inB d[k].2.2 (-2000) 1000 <;> rfl
 · simp [q7, br, driveF]
noncomputable def refEnd (st : StD) : Int × Int × Int × Int × Int × Bool := if st.2.1 = 0 then (0, 0, 0, 0, 0, false) else (st.2.2.1, st.2.2.2.1, w64 (st.1.tdiv (gV st)), w64 (st.2.1.tdiv (gV st)), st.2.2.2.2, true)
theorem Lowest_eq (hN : 200 < N) {sum count : Int} (hs : -1200000 ≤ sum ∧ sum ≤ 1200000) (hc : 0 < count ∧ count ≤ 100) : base_Lowest N sum count = some (w64 (sum.tdiv ((Nat.gcd count.natAbs sum.natAbs : Nat) : Int)), w64 (count.tdiv ((Nat.gcd count.natAbs sum.natAbs : Nat) : Int))) := by
 unfold base_Lowest base_Gcd
 simp only [jn]
 have hg : 0 < Nat.gcd count.natAbs sum.natAbs := Nat.gcd_pos_of_pos_left _ (by omega)
 rw [gcd_loop (b := base_Gcd.b1 N fun a1 => bnd (C1 N a1) fun x1 => some x1) (K := fun a1 => bnd (C1 N a1) fun x1 => some x1) (v := fun g => some (g : Int)) (fun x => -1200000 ≤ x ∧ x ≤ 1200000) (fun x hx => ?_) (fun a c ha hc' _ => ?_) (fun rec a c => rfl) 7 N sum count hs (by omega) (by omega) (by omega), d4, i4 (by simp; omega), Nat.gcd_comm, d7 (by omega), d7 (by omega)]
 ·
  show some (szV x) = _
  rw [szV_abs (by omega)]
 ·
  have h1 : (a.tmod c).natAbs = a.natAbs % c.natAbs := Int.natAbs_tmod a c
  have h2 := Nat.mod_le a.natAbs c.natAbs
  omega
theorem RefCompareDrive_eq (hM : N ≤ 20000) (hN : 200 < N) (hp : PlanOK rows cells losses L) {h s : Int} (hn : PlanNum cells losses h s) (l : Int) {d : List DrT} (hdl : d.length ≤ 62) (hd : driveF rows d = 0) : ref09_CompareDrive N rows cells losses h s l d = some (refEnd (foldD rows cells losses h s l d (0, 0, 0, 0, 0))) := by
 have h6 := hp.c6
 have hbd := foldD_bd0 (l := l) hp hn hd hdl
 have hz := driveF_zero hd
 unfold ref09_CompareDrive
 simp only [jn]
 generalize hK : (fun (x : Int × Int × Int × Int × Int) => _) = K2
 have hK2 : K2 (foldD rows cells losses h s l d (0, 0, 0, 0, 0)) = some (refEnd (foldD rows cells losses h s l d (0, 0, 0, 0, 0))) := by
  generalize foldD rows cells losses h s l d (0, 0, 0, 0, 0) = st at hbd
  subst hK
  obtain ⟨sum, count, lo, hi, mi⟩ := st
  simp only at hbd ⊢
  unfold refEnd
  by_cases hc : count = 0
  · subst hc; rw [f9 (by rfl), if_pos rfl]
  · rw [i4 (by simpa using hc), if_neg hc, Lowest_eq hN hbd.1 (by omega), d4]; rfl
 refine (rds_spec (b := l9 N rows cells losses h s l d K2) (fun x : Int × Int × Int × Int × Int × Int => ∃ k : Nat, k ≤ d.length ∧ x.2.2.1 = k) (fun x => d.length - x.2.2.1.toNat) (fun x => K2 (foldD rows cells losses h s l (d.drop x.2.2.1.toNat) (x.1, x.2.1, x.2.2.2.1, x.2.2.2.2.1, x.2.2.2.2.2))) (fun rec x hI hrec => ?_) N _ ⟨0, Nat.zero_le _, rfl⟩ (by simp; omega)).trans (by simpa using hK2)
 obtain ⟨sum, count, t, lo, hi, mi⟩ := x
 obtain ⟨k, hk, ht⟩ := hI
 simp only at ht
 subst ht
 simp only [l9, jn, Int.toNat_natCast]
 by_cases hkl : k < d.length
 ·
  have hab := point_zero hp.ras (hz d[k] (List.getElem_mem hkl)).1
  rw [f9 (by simpa using hkl), Without_eq hM rows (by omega) losses h s l (by simp; omega), d4, d7 (by omega)]
  simp only [j2 hkl]
  rw [RefServer_eq hM (by omega) hp h s l (without_nil _).1 hab, d4, onL_all (without_nil _).2]
  rw [show srvF 0 (List.map (fun c => levV rows losses h s c d[k].1 d[k].2.1) cells) (0, 0, false) = srvA rows cells losses h s d[k].1 d[k].2.1 0 from rfl]
  rw [List.drop_eq_getElem_cons hkl]
  simp only [foldD]
  generalize srvA rows cells losses h s d[k].1 d[k].2.1 0 = x
  obtain ⟨y1, y2, y3⟩ := x
  rw [k5 (by omega)]
  cases y3 with
  | false =>
   rw [show (!false) = true from rfl, f9 rfl, hrec (_, _, ((k + 1 : Nat) : Int), _, _, _) ⟨k + 1, hkl, rfl⟩ (by simp only [Int.toNat_natCast]; omega)]
   simp only [Int.toNat_natCast, stD, if_true]
  | true =>
   rw [show (!true) = false from rfl, i4 rfl, d7 (by omega)]
   have hst : ∀ b66 b67, chk ((decide (y2 ≥ l)) = true → 0 ≤ (k : Int) ∧ (k : Int) < (d.length : Int)) (br (decide (y2 ≥ l) && decide (d[k].2.2 < l)) (rec (w64 (sum + (w64 (d[k].2.2 - y2))), w64 (count + (1 : Int)), ((k + 1 : Nat) : Int), (if w64 (d[k].2.2 - y2) < b66 then w64 (d[k].2.2 - y2) else b66), (if b67 < w64 (d[k].2.2 - y2) then w64 (d[k].2.2 - y2) else b67), w64 (mi + (1 : Int))))
     (rec (w64 (sum + (w64 (d[k].2.2 - y2))), w64 (count + (1 : Int)), ((k + 1 : Nat) : Int), (if w64 (d[k].2.2 - y2) < b66 then w64 (d[k].2.2 - y2) else b66), (if b67 < w64 (d[k].2.2 - y2) then w64 (d[k].2.2 - y2) else b67), mi))) =
     (K2 (foldD rows cells losses h s l (d.drop (k + 1)) (w64 (sum + (w64 (d[k].2.2 - y2))), w64 (count + (1 : Int)), (if w64 (d[k].2.2 - y2) < b66 then w64 (d[k].2.2 - y2) else b66), (if b67 < w64 (d[k].2.2 - y2) then w64 (d[k].2.2 - y2) else b67), (if (decide (d[k].2.2 < l) && decide (y2 ≥ l)) = true then w64 (mi + 1) else mi)))) := fun b66 b67 => by
    rw [d7 (by intro _; omega), hrec (_, _, ((k + 1 : Nat) : Int), _, _, _) ⟨k + 1, hkl, rfl⟩ (by simp only [Int.toNat_natCast]; omega), hrec (_, _, ((k + 1 : Nat) : Int), _, _, _) ⟨k + 1, hkl, rfl⟩ (by simp only [Int.toNat_natCast]; omega)]
    simp only [Int.toNat_natCast]
    cases decide (d[k].2.2 < l) <;> cases decide (y2 ≥ l) <;> rfl
   rw [hst, hst]
   simp only [stD, Bool.true_eq_false, if_false]
   cases count == 0 <;> rfl
 ·
  have : k = d.length := by omega
  subst this
  rw [i4 (by simp)]
  simp [foldD]

theorem law_PlanDrives (hM : N ≤ 20000) (hN : 200 < N) (rows : Rows) (cells : List m9) (losses : List (Int × Int)) (h s l : Int) (d : List DrT) : z6 N rows cells losses h s l d = some true := by
 unfold z6
 rw [show law09_awake N = some true from rfl, d4, i4 (by rfl), Few_eq hM (by omega), d4]
 by_cases hd : ((((!fewB rows cells losses) || ((decide ((d.length : Int) > (8 : Int))) && (decide ((d.length : Int) ≤ (60 : Int))))) || (decide ((d.length : Int) > (62 : Int))))) = true
 · rw [f9 hd]
 rw [i4 (by simpa using hd)]
 have hd' := Bool.eq_false_iff.2 hd
 simp only [Bool.or_eq_false_iff, Bool.not_eq_false', decide_eq_false_iff_not] at hd'
 have hf := fewOK_of hd'.1.1
 have hdl : d.length ≤ 62 := by have := hd'.2; omega
 rw [Copy_eq hM (by omega) hf, d4]
 unfold B2
 rw [d7 (by omega)]
 simp only [d4]
 rw [CompareDrive_eq hM hN hf h s l hdl, d4, fewErr_eq' hM (by omega) hf, d4]
 simp only [jn]
 unfold cmpE
 by_cases h1 : planE rows cells losses h s l ≠ 0
 ·
  rw [i4 (by simpa using h1), f9 (bne_t h1), if_pos h1, if_pos h1]
  simp
 have h0 := Classical.not_not.1 h1
 rw [if_neg h1, h0, f9 (by rfl), DriveErr_eq hM hN (by have := hf.r14; omega) h s l hdl, d4]
 by_cases h2 : driveE rows d ≠ 0
 · rw [f9 (bne_t h2), if_pos h2]; simp
 rw [i4 (bne_f h2), if_neg h2]
 have hd0 : driveF rows d = 0 := by
  have := Classical.not_not.1 h2
  unfold driveE at this
  split at this
  · exact absurd this (by decide)
  split at this
  · exact absurd this (by decide)
  exact this
 rw [RefCompareDrive_eq hM hN (planOK_of h0) (planNum_of h0) l hdl hd0, d4]
 unfold endD refEnd
 by_cases h3 : (foldD rows cells losses h s l d (0, 0, 0, 0, 0)).2.1 = 0
 · rw [if_pos h3, if_pos h3]; rfl
 · rw [if_neg h3, if_neg h3]; simp
end
end Go.Sh
