/-
 More evaluation: unsigned numbers. For every program.
-/
import Derived.Test.YtabojpkmfkjjkaaPwRA
import Derived.Test.YtabojpkmfkjjkaaPwX
import Derived.Test.YtabojpkmfkjjkaaPlD
set_option linter.all false
namespace Go.PW
theorem bit_andU (a b : Int) : bitI .and .u64 a b = andU a b := by unfold bitI andU; rw [wrap_wu64]; rfl
theorem bit_orU (a b : Int) : bitI .or .u64 a b = orU a b := by unfold bitI orU; rw [wrap_wu64]; rfl
theorem bit_xorU (a b : Int) : bitI .xor .u64 a b = xorU a b := by unfold bitI xorU; rw [wrap_wu64]; rfl
theorem repD_I (n : Nat) (z : Int) : List.replicate n (D.val (Value.int .i64 z)) = (List.replicate n z).map I := by simp
theorem listRep (n : Nat) (z : Int) : D.list n ((List.replicate n z).map I) = L (List.replicate n z) := by simp
theorem segApp (a b : List Int) : D.list (a.length + b.length) (seg (a.map I ++ b.map I) 0 (a.length + b.length)) = L (a ++ b) := by
 unfold seg
 rw [List.drop_zero, List.take_of_length_le (by simp), ← List.map_append, ← List.length_append]
theorem segRep (n : Nat) (z : Int) (b : List Int) : D.list (n + b.length) (seg ((List.replicate n z).map I ++ b.map I) 0 (n + b.length)) = L (List.replicate n z ++ b) := by
 have := segApp (List.replicate n z) b
 rwa [List.length_replicate] at this
attribute [go_sem] segApp segRep listRep bit_andU bit_orU bit_xorU Int.natCast_zero repD_I
theorem subV_map (l : List D) (k n : Nat) (h : k + n ≤ l.length) : subV (l.map V.d) k n = (sub l k n).map V.d := by
 refine List.ext_getElem (by simp [subV]) fun j h1 h2 => ?_
 have hj : j < n := by simpa [subV] using h1
 simp [subV, sub, List.getD_eq_getElem?_getD, show k + j < l.length by omega]
theorem el_room {α : Type} (s : Nat) (f : α → List D) (hf : ∀ x, (f x).length = s) (t : List α) (k : Nat) (h : k < t.length) : k * s + s ≤ (t.flatMap f).length := by
 have h1 : (k + 1) * s ≤ t.length * s := Nat.mul_le_mul_right s h
 rw [Nat.succ_mul] at h1
 rw [j5 s f hf]; exact h1
theorem subV_el {α : Type} [Inhabited α] (s : Nat) (f : α → List D) (hf : ∀ x, (f x).length = s) (t : List α) (k : Nat) (h : k < t.length) : subV ((t.flatMap f).map V.d) (k * s) s = (f (t.getD k default)).map V.d := by
 rw [subV_map _ _ _ (el_room s f hf t k h), sub_el s f hf t k h]
theorem getD_elV {α : Type} [Inhabited α] (s : Nat) (f : α → List D) (hf : ∀ x, (f x).length = s) (t : List α) (k : Nat) (h : k < t.length) (j : Nat) (hj : j < s) : ((t.flatMap f).map V.d).getD (k * s + j) j6 = V.d ((f (t.getD k default)).getD j default) := by
 have h1 := el_room s f hf t k h
 rw [← sub_el s f hf t k h, sub_getD _ _ _ _ hj]
 have h2 : k * s + j < (t.flatMap f).length := by omega
 rw [List.getD_eq_getElem?_getD, List.getD_eq_getElem?_getD, List.getElem?_map, List.getElem?_eq_getElem h2]
 rfl
theorem getD_elV0 {α : Type} [Inhabited α] (s : Nat) (f : α → List D) (hf : ∀ x, (f x).length = s) (t : List α) (k : Nat) (h : k < t.length) (hj : 0 < s) : ((t.flatMap f).map V.d).getD (k * s) j6 = V.d ((f (t.getD k default)).getD 0 default) := getD_elV s f hf t k h 0 hj
def Env.shrink (env : Env) (i m : Nat) : Env :=
 match env.objs[i]? with
 | some ob => { env with objs := env.objs.set i { ob with cells := ob.cells.take m } }
 | none => env
theorem RepVs.takeN {w : World} {S : Nat → Prop} {φ : Nat → Option Nat} {k : Nat} : ∀ (m : Nat) {ds : List V} {vs : List Value}, RepVs w S φ k ds vs → RepVs w S φ k (ds.take m) (vs.take m)
 | 0, _, _, _ => by simp [RepVs]
 | m + 1, [], _, h => by simp only [RepVs] at h; subst h; simp [RepVs]
 | m + 1, d :: ds, _, h => by
  simp only [RepVs] at h
  obtain ⟨v, vs', rfl, hr, ht⟩ := h
  simp only [List.take_succ_cons, RepVs]
  exact ⟨v, _, rfl, hr, RepVs.takeN m ht⟩
theorem Rel.shrink {B : Nat} {w0 : World} {S0 : Nat → Prop} {φ : Nat → Option Nat} {env : Env} {a : Act} {w : World} (h : Rel B w0 S0 φ env a w) (i m : Nat) : Rel B w0 S0 φ (env.shrink i m) a w := by
 unfold Env.shrink
 split
 ·
  rename_i ob hi
  have hlen : (env.objs.set i { ob with cells := ob.cells.take m }).length = env.objs.length := by simp
  refine ⟨h.below, h.base, h.nodef, h.size, fun t => by rw [hlen]; exact h.tmps t, fun j ob' hj => ?_, by rw [hlen]; exact h.low, by rw [hlen]; exact h.inj, by rw [hlen]; exact h.ghost⟩
  rw [hlen]
  have hil : i < env.objs.length := (List.getElem?_eq_some_iff.1 hi).1
  by_cases e : i = j
  ·
   subst e
   rw [List.getElem?_set_self hil] at hj
   cases hj
   rcases h.objs i ob hi with ⟨h1, h2⟩ | ⟨g, cur, vals, rest, h1, h2, h3, h4⟩
   · exact .inl ⟨h1, by simp [h2]⟩
   · exact .inr ⟨g, cur, vals.take m, vals.drop m ++ rest, h1, h2, by rw [h3, ← List.append_assoc, List.take_append_drop], RepVs.takeN m h4⟩
  ·
   rw [List.getElem?_set_ne e] at hj
   exact h.objs j ob' hj
 · exact h
theorem PW.shrink {ro : Option Nat} {P : Program} {c : Code} {Q : Exit → Env → Prop} {env : Env} (i m : Nat) (h : PW ro P c Q (env.shrink i m)) : PW ro P c Q env :=
 fun B w0 S0 φ a w hr => h B w0 S0 φ a w (hr.shrink i m)
end Go.PW
