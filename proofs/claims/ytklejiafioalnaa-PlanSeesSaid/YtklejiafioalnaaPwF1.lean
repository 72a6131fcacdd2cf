/-
 So many blocks of the call's own, told by one list; slices of pointers to them. For every program.
-/
import Derived.Test.YtklejiafioalnaaPwZ
set_option linter.all false
namespace Go.PW
open Go.RowKit

def famN {α : Type} [Inhabited α] (n : Nat) (F : α → Ob) (us : List α) : List Ob := (List.range n).map fun k => F (us.getD k default)
section
variable {α : Type} [Inhabited α] {n : Nat} {F : α → Ob} {us : List α} {R : List Ob}
theorem famN_length : (famN n F us).length = n := by simp [famN]
theorem famN_hi (n : Nat) (F : α → Ob) (us : List α) (R : List Ob) (k : Nat) : (famN n F us ++ R)[n + k]? = R[k]? := by
 rw [List.getElem?_append_right (by rw [famN_length]; omega), famN_length]; congr 1; omega
theorem famN_hi0 (n : Nat) (F : α → Ob) (us : List α) (R : List Ob) : (famN n F us ++ R)[n]? = R[0]? := famN_hi n F us R 0
theorem famN_setHi (n : Nat) (F : α → Ob) (us : List α) (R : List Ob) (k : Nat) (x : Ob) : (famN n F us ++ R).set (n + k) x = famN n F us ++ R.set k x := by
 rw [List.set_append_right _ _ (by rw [famN_length]; omega), famN_length]; congr 2; omega
theorem famN_setHi0 (n : Nat) (F : α → Ob) (us : List α) (R : List Ob) (x : Ob) : (famN n F us ++ R).set n x = famN n F us ++ R.set 0 x := famN_setHi n F us R 0 x
theorem famN_snoc (F : α → Ob) (us : List α) (x : α) : famN us.length F us ++ [F x] = famN (us ++ [x]).length F (us ++ [x]) := by
 refine List.ext_getElem (by simp [famN]) fun j h1 h2 => ?_
 simp only [famN, List.length_append, List.length_map, List.length_range, List.length_cons, List.length_nil, Nat.zero_add] at h1 h2
 by_cases e : j < us.length
 · rw [List.getElem_append_left (by simpa [famN] using e)]; simp [famN, List.getElem?_append_left e]
 ·
  have : j = us.length := by omega
  subst this; simp [famN]
theorem famN_take (n : Nat) (F : α → Ob) (us : List α) (R : List Ob) (j : Nat) : (famN n F us ++ R).take (n + j) = famN n F us ++ R.take j := by
 rw [List.take_append, famN_length, List.take_of_length_le (by rw [famN_length]; omega)]; congr 2; omega
theorem famN_take0 (n : Nat) (F : α → Ob) (us : List α) (R : List Ob) : (famN n F us ++ R).take n = famN n F us := by have := famN_take n F us R 0; simpa using this
theorem famN_takeAll (n : Nat) (F : α → Ob) (us : List α) : (famN n F us).take n = famN n F us := List.take_of_length_le (by rw [famN_length]; exact Nat.le_refl _)

end

def ctrP (b n : Nat) : List V := (List.range n).map fun k => V.ptr (k + b) 0
theorem ctrP_length (b n : Nat) : (ctrP b n).length = n := by simp [ctrP]
theorem ctrP_one (b n : Nat) : (ctrP b n).all oneV = true := by
 rw [List.all_eq_true]; intro v hv; obtain ⟨k, _, rfl⟩ := List.mem_map.1 hv; rfl
theorem ctrP_map (b n : Nat) (g : V → V) (hg : ∀ k, k < n → g (.ptr (k + b) 0) = .ptr (k + b) 0) : (ctrP b n).map g = ctrP b n := by
 rw [ctrP, List.map_map]; exact List.map_congr_left fun k hk => hg k (List.mem_range.1 hk)
theorem ctrP_kill (b n i : Nat) (h : i < b) : (ctrP b n).map (V.kill i) = ctrP b n := ctrP_map b n _ fun k _ => by simp only [V.kill]; rw [if_neg (by omega)]
theorem ctrP_killHi (b n i : Nat) (h : n + b ≤ i) : (ctrP b n).map (V.kill i) = ctrP b n := ctrP_map b n _ fun k hk => by simp only [V.kill]; rw [if_neg (by omega)]
theorem ctrP_cut (b n m : Nat) (h : n + b ≤ m) : (ctrP b n).map (V.cut m) = ctrP b n := ctrP_map b n _ fun k hk => by simp only [V.cut]; rw [if_pos (by omega)]
theorem ctrP_snoc (b n : Nat) : ctrP b n ++ [.ptr (n + b) 0] = ctrP b (n + 1) := by simp [ctrP, List.range_succ]
theorem ctrP_nil (b : Nat) : ctrP b 0 = [] := rfl

def ptrO (b : Nat) (i : Int) : V := if i < 0 then .d (.val (.pointer none)) else .ptr (i.toNat + b) 0
theorem ptrO_pos {b : Nat} {i : Int} (h : 0 ≤ i) : ptrO b i = .ptr (i.toNat + b) 0 := if_neg (by omega)
theorem ptrO_nat (b k : Nat) : ptrO b (k : Int) = .ptr (k + b) 0 := by rw [ptrO_pos (by omega), Int.toNat_natCast]
theorem ptrO_nil (b : Nat) : ptrO b (-1) = .d (.val (.pointer none)) := rfl
theorem ctrP_seg (b n : Nat) : seg (ctrP b n) 0 n = ctrP b n := by rw [seg, List.drop_zero]; exact List.take_of_length_le (by rw [ctrP_length]; exact Nat.le_refl _)
attribute [go_sem] famN_length famN_hi famN_hi0 famN_setHi famN_setHi0 famN_take famN_take0 famN_takeAll ctrP_length ctrP_one ctrP_seg ctrP_nil
end Go.PW
