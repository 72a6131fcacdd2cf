/-
 A block that nobody needs is taken out of the middle. For every program.
-/
import Derived.Test.YtklejiafioalnaaPwF4
set_option linter.all false
namespace Go.PW
open Go.RowKit

def V.del (d : Nat) : V → V
 | .own j off n sz => if j = d then .dead else .own (if d < j then j - 1 else j) off n sz
 | .ptr j off => if j = d then .dead else .ptr (if d < j then j - 1 else j) off
 | .slf j => if j = d then .dead else .slf (if d < j then j - 1 else j)
 | .agg cells => .agg (dels d cells)
 | .clo f caps => .clo f (dels d caps)
 | .tup vs => .tup (dels d vs)
 | .guarded c r => .guarded c (r.del d)
 | v => v
where
 dels (d : Nat) : List V → List V
 | [] => []
 | v :: vs => v.del d :: dels d vs

section
variable {w : World} {S S' : Nat → Prop} {φ φ' : Nat → Option Nat} {m m' d : Nat}
end

section
variable {ro : Option Nat} {P : Program} {B : Nat} {w0 : World} {S0 : Nat → Prop} {φ : Nat → Option Nat} {env : Env} {a : Act} {w : World}

variable {Q : Exit → Env → Prop} {c : Code}
end

theorem lenAdd {α : Type} (l : List α) (a b : Nat) : l.length + a + b = l.length + (a + b) := Nat.add_assoc ..
theorem ltP {k m : Nat} (n : Nat) (h : k < m) : (k < n + m) = True := eq_true (by omega)
theorem neP {k m : Nat} (n : Nat) (h : k < m) : (n + m = k) = False := eq_false (by omega)
theorem neP' {k m : Nat} (n : Nat) (h : k < m) : (k = n + m) = False := eq_false (by omega)
theorem ctrP_cut' {b n k : Nat} (h : b ≤ k) : (ctrP b n).map (V.cut (n + k)) = ctrP b n := by
 simp only [ctrP, List.map_map]
 refine List.map_congr_left fun j hj => ?_
 have := List.mem_range.1 hj
 show V.cut (n + k) (.ptr (j + b) 0) = .ptr (j + b) 0
 simp only [V.cut]; rw [if_pos (by omega)]
theorem famN_assoc {α : Type} [Inhabited α] (n : Nat) (F : α → Ob) (us : List α) (A B : List Ob) : famN n F us ++ A ++ B = famN n F us ++ (A ++ B) := List.append_assoc ..
theorem ctrP_kill' {b n k : Nat} (h : b ≤ k) : (ctrP b n).map (V.kill (n + k)) = ctrP b n := by
 simp only [ctrP, List.map_map]
 refine List.map_congr_left fun j hj => ?_
 have := List.mem_range.1 hj
 show V.kill (n + k) (.ptr (j + b) 0) = .ptr (j + b) 0
 simp only [V.kill]; rw [if_neg (by omega)]
theorem ctrP_frz' {b n k : Nat} (objs : List Ob) (h : b ≤ k) : (ctrP b n).map (V.frz objs (n + k)) = ctrP b n := by
 simp only [ctrP, List.map_map]
 refine List.map_congr_left fun j hj => ?_
 have := List.mem_range.1 hj
 show V.frz objs (n + k) (.ptr (j + b) 0) = .ptr (j + b) 0
 simp only [V.frz]; rw [if_neg (by omega)]
theorem leSelf (n : Nat) : (n ≤ n) = True := eq_true (Nat.le_refl n)
theorem leAddS (n k : Nat) : (n ≤ n + k) = True := eq_true (Nat.le_add_right n k)
theorem segMap {α : Type} (f : α → D) (l : List α) : seg (l.map f) 0 l.length = l.map f := by
 simp only [seg, List.drop_zero]
 exact List.take_of_length_le (by simp)
attribute [go_sem] killMap segMap leSelf leAddS ctrP_cut' ctrP_kill' ctrP_frz' famN_assoc lenAdd ltP neP neP' Nat.add_lt_add_iff_left Nat.add_left_cancel_iff
end Go.PW
