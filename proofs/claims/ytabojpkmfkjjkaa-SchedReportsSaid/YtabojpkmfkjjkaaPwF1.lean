/-
 So many blocks of the call's own, told by one list; slices of pointers to them. For every program.
-/
import Derived.Test.YtabojpkmfkjjkaaPwZ
set_option linter.all false
namespace Go.PW
open Go.RowKit

def l6 {α : Type} [Inhabited α] (n : Nat) (F : α → Ob) (us : List α) : List Ob := (List.range n).map fun k => F (us.getD k default)
section
variable {α : Type} [Inhabited α] {n : Nat} {F : α → Ob} {us : List α} {R : List Ob}
theorem n4 : (l6 n F us).length = n := by simp [l6]
theorem famN_get (n : Nat) (F : α → Ob) (us : List α) (k : Nat) (h : k < n) : (l6 n F us)[k]? = some (F (us.getD k default)) := by simp [l6, h]
theorem d4 (n : Nat) (F : α → Ob) (us : List α) (R : List Ob) (k : Nat) (h : k < n) : (l6 n F us ++ R)[k]? = some (F (us.getD k default)) := by
 rw [List.getElem?_append_left (by rw [n4]; exact h)]; exact famN_get n F us k h
theorem famN_hi (n : Nat) (F : α → Ob) (us : List α) (R : List Ob) (k : Nat) : (l6 n F us ++ R)[n + k]? = R[k]? := by
 rw [List.getElem?_append_right (by rw [n4]; omega), n4]; congr 1; omega
theorem famN_hi0 (n : Nat) (F : α → Ob) (us : List α) (R : List Ob) : (l6 n F us ++ R)[n]? = R[0]? := famN_hi n F us R 0
theorem famN_set (n : Nat) (F : α → Ob) (us : List α) (k : Nat) (x : α) (h : k < us.length) : (l6 n F us).set k (F x) = l6 n F (us.set k x) := by
 refine List.ext_getElem (by simp [l6]) fun j h1 h2 => ?_
 simp only [l6, List.length_set, List.length_map, List.length_range] at h1 h2
 by_cases e : k = j
 · subst e; simp [l6, h]
 · simp [l6, e, List.getElem_set_ne]
theorem famN_setR (n : Nat) (F : α → Ob) (us : List α) (R : List Ob) (k : Nat) (x : α) (h : k < us.length) (hk : k < n) : (l6 n F us ++ R).set k (F x) = l6 n F (us.set k x) ++ R := by
 rw [List.set_append_left _ _ (by rw [n4]; exact hk), famN_set n F us k x h]
theorem famN_setHi (n : Nat) (F : α → Ob) (us : List α) (R : List Ob) (k : Nat) (x : Ob) : (l6 n F us ++ R).set (n + k) x = l6 n F us ++ R.set k x := by
 rw [List.set_append_right _ _ (by rw [n4]; omega), n4]; congr 2; omega
theorem famN_setHi0 (n : Nat) (F : α → Ob) (us : List α) (R : List Ob) (x : Ob) : (l6 n F us ++ R).set n x = l6 n F us ++ R.set 0 x := famN_setHi n F us R 0 x
theorem famN_snoc (F : α → Ob) (us : List α) (x : α) : l6 us.length F us ++ [F x] = l6 (us ++ [x]).length F (us ++ [x]) := by
 refine List.ext_getElem (by simp [l6]) fun j h1 h2 => ?_
 simp only [l6, List.length_append, List.length_map, List.length_range, List.length_cons, List.length_nil, Nat.zero_add] at h1 h2
 by_cases e : j < us.length
 · rw [List.getElem_append_left (by simpa [l6] using e)]; simp [l6, List.getElem?_append_left e]
 ·
  have : j = us.length := by omega
  subst this; simp [l6]
theorem famN_setS (n : Nat) (F : α → Ob) (us : List α) (k : Nat) (x y : α) (h : k < us.length) : (l6 n F (us.set k x)).set k (F y) = l6 n F (us.set k y) := by
 rw [famN_set n F (us.set k x) k y (by simpa using h), List.set_set]
theorem famN_setSR (n : Nat) (F : α → Ob) (us : List α) (R : List Ob) (k : Nat) (x y : α) (h : k < us.length) (hk : k < n) : (l6 n F (us.set k x) ++ R).set k (F y) = l6 n F (us.set k y) ++ R := by
 rw [famN_setR n F (us.set k x) R k y (by simpa using h) hk, List.set_set]
theorem famN_getSR (n : Nat) (F : α → Ob) (us : List α) (R : List Ob) (k : Nat) (x : α) (h : k < n) (hk : k < us.length) : (l6 n F (us.set k x) ++ R)[k]? = some (F x) := by
 rw [d4 n F _ R k h]; simp [List.getD_eq_getElem?_getD, hk]
theorem famN_take (n : Nat) (F : α → Ob) (us : List α) (R : List Ob) (j : Nat) : (l6 n F us ++ R).take (n + j) = l6 n F us ++ R.take j := by
 rw [List.take_append, n4, List.take_of_length_le (by rw [n4]; omega)]; congr 2; omega
theorem famN_take0 (n : Nat) (F : α → Ob) (us : List α) (R : List Ob) : (l6 n F us ++ R).take n = l6 n F us := by have := famN_take n F us R 0; simpa using this
theorem famN_takeAll (n : Nat) (F : α → Ob) (us : List α) : (l6 n F us).take n = l6 n F us := List.take_of_length_le (by rw [n4]; exact Nat.le_refl _)

def FamD (F : α → Ob) : Prop := ∀ u, (F u).cells.all isD = true
theorem FamD.map {F : α → Ob} (h : FamD F) (g : V → V) (hg : ∀ x, g (.d x) = .d x) (u : α) : (F u).cells.map g = (F u).cells := by
 conv => rhs; rw [← List.map_id (F u).cells]
 refine List.map_congr_left fun v hv => ?_
 have := List.all_eq_true.1 (h u) v hv
 cases v with
 | d x => exact hg x
 | _ => simp [isD] at this
theorem FamD.mapF {F : α → Ob} (h : FamD F) (g : V → V) (hg : ∀ x, g (.d x) = .d x) (n : Nat) (us : List α) : (l6 n F us).map (fun ob => { ob with cells := ob.cells.map g }) = l6 n F us := by
 simp only [l6, List.map_map]
 refine List.map_congr_left fun k _ => ?_
 simp only [Function.comp, h.map g hg]
theorem FamD.kill {F : α → Ob} (h : FamD F) (i n : Nat) (us : List α) : (l6 n F us).map (fun ob => { ob with cells := ob.cells.map (V.kill i) }) = l6 n F us := h.mapF _ (fun _ => rfl) n us
theorem FamD.cut {F : α → Ob} (h : FamD F) (i n : Nat) (us : List α) : (l6 n F us).map (fun ob => { ob with cells := ob.cells.map (V.cut i) }) = l6 n F us := h.mapF _ (fun _ => rfl) n us
theorem FamD.frz {F : α → Ob} (h : FamD F) (objs : List Ob) (i n : Nat) (us : List α) : (l6 n F us).map (frzOb objs i) = l6 n F us := h.mapF (V.frz objs i) (fun _ => by simp only [V.frz]) n us
end

def p9 (b n : Nat) : List V := (List.range n).map fun k => V.ptr (k + b) 0
theorem ctrP_length (b n : Nat) : (p9 b n).length = n := by simp [p9]
theorem ctrP_getD (b n k : Nat) (h : k < n) : (p9 b n).getD k j6 = .ptr (k + b) 0 := by simp [p9, List.getD_eq_getElem?_getD, h]
theorem ctrP_one (b n : Nat) : (p9 b n).all oneV = true := by
 rw [List.all_eq_true]; intro v hv; obtain ⟨k, _, rfl⟩ := List.mem_map.1 hv; rfl
theorem ctrP_map (b n : Nat) (g : V → V) (hg : ∀ k, k < n → g (.ptr (k + b) 0) = .ptr (k + b) 0) : (p9 b n).map g = p9 b n := by
 rw [p9, List.map_map]; exact List.map_congr_left fun k hk => hg k (List.mem_range.1 hk)
theorem ctrP_kill (b n i : Nat) (h : i < b) : (p9 b n).map (V.kill i) = p9 b n := ctrP_map b n _ fun k _ => by simp only [V.kill]; rw [if_neg (by omega)]
theorem ctrP_killHi (b n i : Nat) (h : n + b ≤ i) : (p9 b n).map (V.kill i) = p9 b n := ctrP_map b n _ fun k hk => by simp only [V.kill]; rw [if_neg (by omega)]
theorem ctrP_cut (b n m : Nat) (h : n + b ≤ m) : (p9 b n).map (V.cut m) = p9 b n := ctrP_map b n _ fun k hk => by simp only [V.cut]; rw [if_pos (by omega)]
theorem ctrP_snoc (b n : Nat) : p9 b n ++ [.ptr (n + b) 0] = p9 b (n + 1) := by simp [p9, List.range_succ]
theorem ctrP_nil (b : Nat) : p9 b 0 = [] := rfl

def ptrO (b : Nat) (i : Int) : V := if i < 0 then .d (.val (.pointer none)) else .ptr (i.toNat + b) 0
theorem ptrO_neg {b : Nat} {i : Int} (h : i < 0) : ptrO b i = .d (.val (.pointer none)) := if_pos h
theorem ptrO_pos {b : Nat} {i : Int} (h : 0 ≤ i) : ptrO b i = .ptr (i.toNat + b) 0 := if_neg (by omega)
theorem ptrO_nat (b k : Nat) : ptrO b (k : Int) = .ptr (k + b) 0 := by rw [ptrO_pos (by omega), Int.toNat_natCast]
theorem i6 {b : Nat} {i : Int} (h : decide (i < 0) = true) : ptrO b i = .d (.val (.pointer none)) := if_pos (of_decide_eq_true h)
theorem i7 {b : Nat} {i : Int} (h : decide (i < 0) = false) : ptrO b i = .ptr (i.toNat + b) 0 := if_neg (of_decide_eq_false h)
theorem ptrO_nil (b : Nat) : ptrO b (-1) = .d (.val (.pointer none)) := rfl
theorem ctrP_seg (b n : Nat) : seg (p9 b n) 0 n = p9 b n := by rw [seg, List.drop_zero]; exact List.take_of_length_le (by rw [ctrP_length]; exact Nat.le_refl _)
theorem FamD.toDs {α : Type} [Inhabited α] {F : α → Ob} (h : FamD F) (objs : List Ob) (d : Nat) (u : α) : toDs objs (d + 1) (F u).cells = (F u).cells.map asD := by
 refine List.map_congr_left fun v hv => ?_
 have := List.all_eq_true.1 (h u) v hv
 cases v with
 | d x => exact toD_d objs d x
 | _ => simp [isD] at this
theorem FamD.ok {α : Type} [Inhabited α] {F : α → Ob} (h : FamD F) (objs : List Ob) (d : Nat) (u : α) (v : V) (hv : v ∈ (F u).cells) : okD objs d v := by
 have := List.all_eq_true.1 (h u) v hv
 cases v with
 | d x => cases d <;> trivial
 | _ => simp [isD] at this
theorem map_range_getD {α β : Type} [Inhabited α] (us : List α) (g : α → β) : (List.range us.length).map (fun k => g (us.getD k default)) = us.map g := by
 refine List.ext_getElem (by simp) fun j h1 h2 => ?_
 simp only [List.length_map, List.length_range] at h1
 simp [List.getD_eq_getElem?_getD, h1]
theorem ctrP_toDs' {α : Type} [Inhabited α] {F : α → Ob} (h : FamD F) (us : List α) (n : Nat) (hn : us.length = n) (objs : List Ob) (b : Nat) (ho : ∀ k, k < n → objs[k + b]? = some (F (us.getD k default))) (d : Nat) :
  toDs objs (d + 2) (p9 b n) = us.map fun u => D.ref ((F u).cells.map asD) := by
 subst hn
 rw [← map_range_getD us (fun u => D.ref ((F u).cells.map asD)), toDs, p9, List.map_map]
 refine List.map_congr_left fun k hk => ?_
 simp only [Function.comp, toD_ptr, List.drop_zero]
 rw [show cellsOf objs (k + b) = (F (us.getD k default)).cells by simp only [cellsOf, ho k (List.mem_range.1 hk)], h.toDs]
theorem ctrP_ok' {α : Type} [Inhabited α] {F : α → Ob} (h : FamD F) (us : List α) (n : Nat) (objs : List Ob) (b : Nat) (ho : ∀ k, k < n → objs[k + b]? = some (F (us.getD k default))) (d : Nat) : okAll objs (d + 1) (p9 b n) = True := by
 simp only [okAll, eq_iff_iff, iff_true]
 intro v hv
 obtain ⟨k, hk, rfl⟩ := List.mem_map.1 hv
 rw [okD_ptr, List.drop_zero]
 intro x hx
 rw [show cellsOf objs (k + b) = (F (us.getD k default)).cells by simp only [cellsOf, ho k (List.mem_range.1 hk)]] at hx
 exact h.ok objs d _ x hx
theorem q4 {α : Type} [Inhabited α] (F : α → Ob) (h : FamD F) (us : List α) (n : Nat) (hn : us.length = n) (o0 o1 o2 o3 o4 o5 o6 : Ob) (R : List Ob) (d : Nat) : toDs (o0 :: o1 :: o2 :: o3 :: o4 :: o5 :: o6 :: (l6 n F us ++ R)) (d + 2) (p9 7 n) = us.map fun u => D.ref ((F u).cells.map asD) := ctrP_toDs' h us n hn _ _ (fun k hk => d4 n F us R k hk) d
theorem A6 {α : Type} [Inhabited α] (F : α → Ob) (h : FamD F) (us : List α) (n : Nat) (o0 o1 o2 o3 o4 o5 o6 : Ob) (R : List Ob) (d : Nat) : okAll (o0 :: o1 :: o2 :: o3 :: o4 :: o5 :: o6 :: (l6 n F us ++ R)) (d + 1) (p9 7 n) = True := ctrP_ok' h us n _ _ (fun k hk => d4 n F us R k hk) d
attribute [go_sem] n4 famN_hi famN_hi0 famN_setHi famN_setHi0 famN_take famN_take0 famN_takeAll ctrP_length ctrP_one ctrP_seg ctrP_nil
end Go.PW
