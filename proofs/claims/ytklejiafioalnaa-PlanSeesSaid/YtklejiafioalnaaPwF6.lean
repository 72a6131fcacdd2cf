/-
 Blocks that a call does not reach: their cells are not told, only that they point to older blocks. Pads. For every program.
-/
import Derived.Test.YtklejiafioalnaaPwF5
set_option linter.all false
namespace Go.PW
open Go.RowKit

def lowC (m : Nat) : V → Prop
 | .d _ => True
 | .own i _ _ _ => i < m
 | .ptr i _ => i < m
 | .dead => True
 | _ => False
abbrev LowL (m : Nat) := { l : List V // ∀ v ∈ l, lowC m v }
theorem lowC_kill {m i : Nat} (hi : m ≤ i) : ∀ v : V, lowC m v → V.kill i v = v
 | .d x, _ => by simp only [V.kill]
 | .own j off n sz, h => by
  simp only [lowC] at h
  simp only [V.kill]
  exact if_neg (by omega)
 | .ptr j off, h => by
  simp only [lowC] at h
  simp only [V.kill]
  exact if_neg (by omega)
 | .dead, _ => by simp only [V.kill]
theorem lowC_frz {m i : Nat} (objs : List Ob) (hi : m ≤ i) : ∀ v : V, lowC m v → V.frz objs i v = v
 | .d x, _ => by simp only [V.frz]
 | .own j off n sz, h => by
  simp only [lowC] at h
  simp only [V.frz]
  exact if_neg (by omega)
 | .ptr j off, h => by
  simp only [lowC] at h
  simp only [V.frz]
  exact if_neg (by omega)
 | .dead, _ => by simp only [V.frz]
theorem lowC_cut {m i : Nat} (hi : m ≤ i) : ∀ v : V, lowC m v → V.cut i v = v
 | .d x, _ => by simp only [V.cut]
 | .own j off n sz, h => by
  simp only [lowC] at h
  simp only [V.cut]
  exact if_pos (by omega)
 | .ptr j off, h => by
  simp only [lowC] at h
  simp only [V.cut]
  exact if_pos (by omega)
 | .dead, _ => by simp only [V.cut]
theorem lowC_del {m i : Nat} (hi : m ≤ i) : ∀ v : V, lowC m v → V.del i v = v
 | .d x, _ => by simp only [V.del]
 | .own j off n sz, h => by
  simp only [lowC] at h
  simp only [V.del]
  rw [if_neg (by omega), if_neg (by omega)]
 | .ptr j off, h => by
  simp only [lowC] at h
  simp only [V.del]
  rw [if_neg (by omega), if_neg (by omega)]
 | .dead, _ => by simp only [V.del]
theorem map_same {f : V → V} : ∀ {l : List V}, (∀ v ∈ l, f v = v) → l.map f = l
 | [], _ => rfl
 | v :: l, h => by rw [List.map_cons, h v List.mem_cons_self, map_same fun x hx => h x (List.mem_cons_of_mem _ hx)]
@[go_sem] theorem low_kill {m : Nat} (o : LowL m) {i : Nat} (hi : m ≤ i) : o.1.map (V.kill i) = o.1 := map_same fun v hv => lowC_kill hi v (o.2 v hv)
@[go_sem] theorem low_frz {m : Nat} (o : LowL m) (objs : List Ob) {i : Nat} (hi : m ≤ i) : o.1.map (V.frz objs i) = o.1 := map_same fun v hv => lowC_frz objs hi v (o.2 v hv)
@[go_sem] theorem low_cut {m : Nat} (o : LowL m) {i : Nat} (hi : m ≤ i) : o.1.map (V.cut i) = o.1 := map_same fun v hv => lowC_cut hi v (o.2 v hv)
@[go_sem] theorem low_del {m : Nat} (o : LowL m) {i : Nat} (hi : m ≤ i) : o.1.map (V.del i) = o.1 := map_same fun v hv => lowC_del hi v (o.2 v hv)
end Go.PW
