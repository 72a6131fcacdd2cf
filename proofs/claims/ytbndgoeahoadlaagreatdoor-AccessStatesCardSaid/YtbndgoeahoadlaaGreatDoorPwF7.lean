/-
 A block that nobody needs is taken out of the middle. For every program.
-/
import Derived.Test.YtbndgoeahoadlaaGreatDoorPwF4
import Derived.LoopNIn
set_option linter.all false
namespace Go.PW
open Go.RowKit

def V.del (d : Nat) : V → V
 | .own j off n sz => if j = d then .dead else .own (if d < j then j - 1 else j) off n sz
 | .ptr j off => if j = d then .dead else .ptr (if d < j then j - 1 else j) off
 | .slf j => if j = d then .dead else .slf (if d < j then j - 1 else j)
 | .agg cells => .agg (dels d cells)
 | .clo f caps => .clo f (dels d caps)
 | .tup vs => .tup (dels d vs)
 | .guarded c r => .guarded c (r.del d)
 | v => v
where
 dels (d : Nat) : List V → List V
 | [] => []
 | v :: vs => v.del d :: dels d vs

section
variable {w : World} {S S' : Nat → Prop} {φ φ' : Nat → Option Nat} {m m' d : Nat}
end

section
variable {ro : Option Nat} {P : Program} {B : Nat} {w0 : World} {S0 : Nat → Prop} {φ : Nat → Option Nat} {env : Env} {a : Act} {w : World}

variable {Q : Exit → Env → Prop} {c : Code}
end

theorem lenAdd {α : Type} (l : List α) (a b : Nat) : l.length + a + b = l.length + (a + b) := Nat.add_assoc ..
theorem ltP {k m : Nat} (n : Nat) (h : k < m) : (k < n + m) = True := eq_true (by omega)
theorem neP {k m : Nat} (n : Nat) (h : k < m) : (n + m = k) = False := eq_false (by omega)
theorem neP' {k m : Nat} (n : Nat) (h : k < m) : (k = n + m) = False := eq_false (by omega)
theorem ctrP_cut' {b n k : Nat} (h : b ≤ k) : (ctrP b n).map (V.cut (n + k)) = ctrP b n := by
 simp only [ctrP, List.map_map]
 refine List.map_congr_left fun j hj => ?_
 have := List.mem_range.1 hj
 show V.cut (n + k) (.ptr (j + b) 0) = .ptr (j + b) 0
 simp only [V.cut]; rw [if_pos (by omega)]
theorem famN_assoc {α : Type} [Inhabited α] (n : Nat) (F : α → Ob) (us : List α) (A B : List Ob) : famN n F us ++ A ++ B = famN n F us ++ (A ++ B) := List.append_assoc ..
theorem ctrP_kill' {b n k : Nat} (h : b ≤ k) : (ctrP b n).map (V.kill (n + k)) = ctrP b n := by
 simp only [ctrP, List.map_map]
 refine List.map_congr_left fun j hj => ?_
 have := List.mem_range.1 hj
 show V.kill (n + k) (.ptr (j + b) 0) = .ptr (j + b) 0
 simp only [V.kill]; rw [if_neg (by omega)]
theorem ctrP_frz' {b n k : Nat} (objs : List Ob) (h : b ≤ k) : (ctrP b n).map (V.frz objs (n + k)) = ctrP b n := by
 simp only [ctrP, List.map_map]
 refine List.map_congr_left fun j hj => ?_
 have := List.mem_range.1 hj
 show V.frz objs (n + k) (.ptr (j + b) 0) = .ptr (j + b) 0
 simp only [V.frz]; rw [if_neg (by omega)]
theorem leSelf (n : Nat) : (n ≤ n) = True := eq_true (Nat.le_refl n)
theorem leAddS (n k : Nat) : (n ≤ n + k) = True := eq_true (Nat.le_add_right n k)
theorem segMap {α : Type} (f : α → D) (l : List α) : seg (l.map f) 0 l.length = l.map f := by
 simp only [seg, List.drop_zero]
 exact List.take_of_length_le (by simp)
attribute [go_sem] killMap segMap leSelf leAddS ctrP_cut' ctrP_kill' ctrP_frz' famN_assoc lenAdd ltP neP neP' Nat.add_lt_add_iff_left Nat.add_left_cancel_iff
theorem takeFlat {α : Type} (F : α → List D) (k : Nat) (hF : ∀ x, (F x).length = k) (t : List α) : (t.flatMap F).take (t.length * k) = t.flatMap F := take_flat t hF rfl
theorem takeFlat1 {α : Type} (F : α → List D) (k : Nat) (hF : ∀ x, (F x).length = k) (t : List α) (l : List D) (h : l.length = k) : (t.flatMap F ++ l).take ((t.length + 1) * k) = t.flatMap F ++ l := by
 refine List.take_of_length_le ?_
 rw [List.length_append, flatMap_length k F hF, h, Nat.add_mul]; omega
theorem allValFlat {α : Type} (F : α → List D) (h : ∀ x, (F x).all isValD = true) : ∀ (t : List α), (t.flatMap F).all isValD = true
 | [] => rfl
 | x :: t => by rw [List.flatMap_cons, List.all_append, h, allValFlat F h t]; rfl
theorem segFlatSnoc {α : Type} (F : α → List D) (k : Nat) (hF : ∀ x, (F x).length = k) (l : List α) (y : α) (c : List D) (hc : c = F y) : seg (l.flatMap F ++ c) 0 ((l.length + 1) * k) = (l ++ [y]).flatMap F := by
 subst hc
 have e : (l ++ [y]).flatMap F = l.flatMap F ++ F y := by simp
 rw [e]
 simp only [seg, List.drop_zero]
 exact takeFlat1 F k hF l (F y) (hF y)
theorem takeFlatS {α : Type} (F : α → List D) (k : Nat) (hF : ∀ x, (F x).length = k) (l : List α) (y : α) : ((l ++ [y]).flatMap F).take ((l.length + 1) * k) = (l ++ [y]).flatMap F := by
 refine List.take_of_length_le ?_
 rw [flatMap_length k F hF, List.length_append]; exact Nat.le_refl _
end Go.PW

namespace Go.PW
open Go.RowKit

def lowC (m : Nat) : V → Prop
 | .d _ => True
 | .own i _ _ _ => i < m
 | .ptr i _ => i < m
 | .dead => True
 | _ => False
abbrev LowL (m : Nat) := { l : List V // ∀ v ∈ l, lowC m v }
theorem lowC_kill {m i : Nat} (hi : m ≤ i) : ∀ v : V, lowC m v → V.kill i v = v
 | .d x, _ => by simp only [V.kill]
 | .own j off n sz, h => by
  simp only [lowC] at h
  simp only [V.kill]
  exact if_neg (by omega)
 | .ptr j off, h => by
  simp only [lowC] at h
  simp only [V.kill]
  exact if_neg (by omega)
 | .dead, _ => by simp only [V.kill]
theorem lowC_frz {m i : Nat} (objs : List Ob) (hi : m ≤ i) : ∀ v : V, lowC m v → V.frz objs i v = v
 | .d x, _ => by simp only [V.frz]
 | .own j off n sz, h => by
  simp only [lowC] at h
  simp only [V.frz]
  exact if_neg (by omega)
 | .ptr j off, h => by
  simp only [lowC] at h
  simp only [V.frz]
  exact if_neg (by omega)
 | .dead, _ => by simp only [V.frz]
theorem lowC_cut {m i : Nat} (hi : m ≤ i) : ∀ v : V, lowC m v → V.cut i v = v
 | .d x, _ => by simp only [V.cut]
 | .own j off n sz, h => by
  simp only [lowC] at h
  simp only [V.cut]
  exact if_pos (by omega)
 | .ptr j off, h => by
  simp only [lowC] at h
  simp only [V.cut]
  exact if_pos (by omega)
 | .dead, _ => by simp only [V.cut]
theorem lowC_del {m i : Nat} (hi : m ≤ i) : ∀ v : V, lowC m v → V.del i v = v
 | .d x, _ => by simp only [V.del]
 | .own j off n sz, h => by
  simp only [lowC] at h
  simp only [V.del]
  rw [if_neg (by omega), if_neg (by omega)]
 | .ptr j off, h => by
  simp only [lowC] at h
  simp only [V.del]
  rw [if_neg (by omega), if_neg (by omega)]
 | .dead, _ => by simp only [V.del]
theorem map_same {f : V → V} : ∀ {l : List V}, (∀ v ∈ l, f v = v) → l.map f = l
 | [], _ => rfl
 | v :: l, h => by rw [List.map_cons, h v List.mem_cons_self, map_same fun x hx => h x (List.mem_cons_of_mem _ hx)]
@[go_sem] theorem low_kill {m : Nat} (o : LowL m) {i : Nat} (hi : m ≤ i) : o.1.map (V.kill i) = o.1 := map_same fun v hv => lowC_kill hi v (o.2 v hv)
@[go_sem] theorem low_frz {m : Nat} (o : LowL m) (objs : List Ob) {i : Nat} (hi : m ≤ i) : o.1.map (V.frz objs i) = o.1 := map_same fun v hv => lowC_frz objs hi v (o.2 v hv)
@[go_sem] theorem low_cut {m : Nat} (o : LowL m) {i : Nat} (hi : m ≤ i) : o.1.map (V.cut i) = o.1 := map_same fun v hv => lowC_cut hi v (o.2 v hv)
@[go_sem] theorem low_del {m : Nat} (o : LowL m) {i : Nat} (hi : m ≤ i) : o.1.map (V.del i) = o.1 := map_same fun v hv => lowC_del hi v (o.2 v hv)
end Go.PW

namespace Go.PW
open Go.RowKit

def PW.rounds (ro : Option Nat) (P : Program) (c : Code) (Q : Exit → Env → Prop) : Nat → Env → Prop
 | 0, _ => False
 | m + 1, env => PW ro P c (andThen (PW.rounds ro P c Q m) Q) env
theorem PW.loopN {ro : Option Nat} {P : Program} {c : Code} {Q : Exit → Env → Prop} {env : Env} (m : Nat) (h : PW.rounds ro P c Q m env) : PW ro P (.loop c) Q env := by
 intro B w0 S0 φ a w hr
 refine wpIn_loop_rounds m ?_
 induction m generalizing env φ a w with
 | zero => exact h.elim
 | succ m ih =>
  rw [roundsIn_succ]
  refine wpIn_mono (h B w0 S0 φ a w hr) ?_
  rintro e a' w' ⟨env', φ', hq, hr'⟩
  cases e with
  | normal => exact ih hq φ' a' w' hr'
  | _ => exact ⟨env', φ', hq, hr'⟩
theorem w64_add01 : w64 ((0 : Int) + (1 : Int)) = 1 := by rw [w64_id (by omega)]; rfl
theorem w64_add11 : w64 ((1 : Int) + (1 : Int)) = 2 := by rw [w64_id (by omega)]; rfl
attribute [go_sem] w64_add01 w64_add11
end Go.PW
