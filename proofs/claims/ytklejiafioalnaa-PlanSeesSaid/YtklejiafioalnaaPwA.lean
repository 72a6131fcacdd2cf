/-
 What a value in memory reads as, told without addresses, and how such a reading is kept. For every program.
-/
import Derived.Below
import Derived.Tactics
import Derived.Orders
import Derived.Laws.AppendOwn
import Derived.Laws.MakeOwn
import Derived.Laws.NewBlocks
import Derived.RangeFuncOwn
set_option linter.all false
namespace Go.PW
open Go.RowKit

inductive D
 | val (x : Value)
 | list (n : Nat) (cells : List D)
 | ref (cells : List D)
 | agg (cells : List D)
 | clo (f : FuncId) (caps : List D)
 | tup (ds : List D)

instance : Inhabited D := ⟨.val (.int .i64 0)⟩

section
variable (w : World) (S : Nat → Prop)
mutual
def RepD : D → Value → Prop
 | .val x, v => v = x
 | .list n cells, v => ∃ a cap, v = .slice a n cap ∧ n ≤ cap ∧ (cells = [] ∨ ∃ b o, a = some ⟨b, o, none⟩ ∧ RepCells cells b o)
 | .ref cells, v => ∃ b o, v = .pointer (some ⟨b, o, none⟩) ∧ RepCells cells b o
 | .agg cells, v => ∃ vs : List Value, v = .agg vs.toArray ∧ RepAll cells vs
 | .clo f caps, v => ∃ vs : List Value, v = .func (.func f) #[] vs.toArray ∧ RepAll caps vs
 | .tup ds, v => ∃ vs : List Value, v = .tuple vs.toArray ∧ RepAll ds vs
def RepCells : List D → Nat → Nat → Prop
 | [], _, _ => True
 | d :: ds, b, o => (S b ∧ ∃ v, w.cell? ⟨b, o, none⟩ = some v ∧ RepD d v) ∧ RepCells ds b (o + 1)
def RepAll : List D → List Value → Prop
 | [], vs => vs = []
 | d :: ds, vs => ∃ v vs', vs = v :: vs' ∧ RepD d v ∧ RepAll ds vs'
end
end

def Keeps (w : World) (S : Nat → Prop) (w' : World) (S' : Nat → Prop) : Prop :=
 ∀ b o x, S b → w.cell? ⟨b, o, none⟩ = some x → w'.cell? ⟨b, o, none⟩ = some x ∧ S' b

section
variable {w w' : World} {S S' : Nat → Prop}
mutual
theorem RepD.mono (h : Keeps w S w' S') : ∀ (d : D) (v : Value), RepD w S d v → RepD w' S' d v
 | .val x, v, hv => by simpa [RepD] using hv
 | .list n cells, v, hv => by
  simp only [RepD] at hv ⊢
  obtain ⟨a, cap, rfl, hn, hc⟩ := hv
  refine ⟨a, cap, rfl, hn, hc.imp id ?_⟩
  rintro ⟨b, o, rfl, hr⟩
  exact ⟨b, o, rfl, RepCells.mono h cells b o hr⟩
 | .ref cells, v, hv => by
  simp only [RepD] at hv ⊢
  obtain ⟨b, o, rfl, hr⟩ := hv
  exact ⟨b, o, rfl, RepCells.mono h cells b o hr⟩
 | .agg cells, v, hv => by
  simp only [RepD] at hv ⊢
  obtain ⟨vs, rfl, hr⟩ := hv
  exact ⟨vs, rfl, RepAll.mono h cells vs hr⟩
 | .clo f caps, v, hv => by
  simp only [RepD] at hv ⊢
  obtain ⟨vs, rfl, hr⟩ := hv
  exact ⟨vs, rfl, RepAll.mono h caps vs hr⟩
 | .tup ds, v, hv => by
  simp only [RepD] at hv ⊢
  obtain ⟨vs, rfl, hr⟩ := hv
  exact ⟨vs, rfl, RepAll.mono h ds vs hr⟩
theorem RepCells.mono (h : Keeps w S w' S') : ∀ (ds : List D) (b o : Nat), RepCells w S ds b o → RepCells w' S' ds b o
 | [], _, _, _ => by simp [RepCells]
 | d :: ds, b, o, hv => by
  simp only [RepCells] at hv ⊢
  obtain ⟨⟨hs, v, hc, hr⟩, ht⟩ := hv
  exact ⟨⟨(h b o v hs hc).2, v, (h b o v hs hc).1, RepD.mono h d v hr⟩, RepCells.mono h ds b (o + 1) ht⟩
theorem RepAll.mono (h : Keeps w S w' S') : ∀ (ds : List D) (vs : List Value), RepAll w S ds vs → RepAll w' S' ds vs
 | [], vs, hv => by simpa [RepAll] using hv
 | d :: ds, vs, hv => by
  simp only [RepAll] at hv ⊢
  obtain ⟨v, vs', rfl, hr, ht⟩ := hv
  exact ⟨v, vs', rfl, RepD.mono h d v hr, RepAll.mono h ds vs' ht⟩
end

theorem RepAll.length : ∀ (ds : List D) (vs : List Value), RepAll w S ds vs → vs.length = ds.length
 | [], vs, h => by simp only [RepAll] at h; simp [h]
 | d :: ds, vs, h => by
  simp only [RepAll] at h
  obtain ⟨v, vs', rfl, _, ht⟩ := h
  simp [RepAll.length ds vs' ht]

theorem RepAll.get : ∀ (ds : List D) (vs : List Value), RepAll w S ds vs → ∀ k, k < ds.length → RepD w S (ds.getD k default) (vs.getD k undef)
 | [], _, _, k, hk => by simp at hk
 | d :: ds, vs, h, k, hk => by
  simp only [RepAll] at h
  obtain ⟨v, vs', rfl, hr, ht⟩ := h
  cases k with
  | zero => simpa using hr
  | succ k => simpa using RepAll.get ds vs' ht k (by simpa using hk)

theorem RepCells.get : ∀ (ds : List D) (b o : Nat), RepCells w S ds b o → ∀ k, k < ds.length → S b ∧ ∃ v, w.cell? ⟨b, o + k, none⟩ = some v ∧ RepD w S (ds.getD k default) v
 | [], _, _, _, k, hk => by simp at hk
 | d :: ds, b, o, h, k, hk => by
  simp only [RepCells] at h
  obtain ⟨⟨hs, v, hc, hr⟩, ht⟩ := h
  cases k with
  | zero => exact ⟨hs, v, by simpa using hc, by simpa using hr⟩
  | succ k =>
   have := RepCells.get ds b (o + 1) ht k (by simpa using hk)
   rw [show o + 1 + k = o + (k + 1) by omega] at this
   simpa using this

theorem RepCells.intro : ∀ (ds : List D) (b o : Nat), (∀ k, k < ds.length → S b ∧ ∃ v, w.cell? ⟨b, o + k, none⟩ = some v ∧ RepD w S (ds.getD k default) v) → RepCells w S ds b o
 | [], _, _, _ => by simp [RepCells]
 | d :: ds, b, o, h => by
  simp only [RepCells]
  refine ⟨?_, RepCells.intro ds b (o + 1) fun k hk => ?_⟩
  ·
   have := h 0 (by simp)
   simpa using this
  ·
   have := h (k + 1) (by simpa using hk)
   rw [show o + (k + 1) = o + 1 + k by omega] at this
   simpa using this

end

def sub (cells : List D) (k n : Nat) : List D := (List.range n).map fun j => cells.getD (k + j) default
@[simp] theorem sub_length (cells : List D) (k n : Nat) : (sub cells k n).length = n := by simp [sub]
theorem sub_getD (cells : List D) (k n j : Nat) (h : j < n) : (sub cells k n).getD j default = cells.getD (k + j) default := by
 simp [sub, List.getD_eq_getElem?_getD, h]

theorem RepCells.sub {w : World} {S : Nat → Prop} {ds : List D} {b o : Nat} (h : RepCells w S ds b o) (k n : Nat) (hk : k + n ≤ ds.length) : RepCells w S (sub ds k n) b (o + k) := by
 refine RepCells.intro _ _ _ fun j hj => ?_
 rw [sub_length] at hj
 rw [sub_getD _ _ _ _ hj, Nat.add_assoc]
 exact RepCells.get ds b o h (k + j) (by omega)


inductive V
 | d (x : D)
 | own (i off n sz : Nat)
 | ptr (i off : Nat)
 | agg (cells : List V)
 | clo (f : FuncId) (caps : List V)
 | tup (vs : List V)
 | guarded (c : Bool) (r : V)
 | dead
 | slf (i : Nat)
 | emp
 deriving Inhabited

structure Ob where
 cells : List V
 e : TypeId

structure Env where
 nt : Nat
 tmps : List (Nat × V)
 objs : List Ob
 gs : Nat × List (V × Value × Nat) := (0, [])
 th : (Nat → World → Prop) × Bool := (fun _ _ => True, false)

section
variable (w : World) (S : Nat → Prop) (φ : Nat → Option Nat) (m : Nat)
mutual
def RepV : V → Value → Prop
 | .d x, v => RepD w S x v
 | .own i off n sz, v => i < m ∧ ((∃ a, v = .slice a 0 0 ∧ n = 0 ∧ (off = 0 → a = none)) ∨
   ∃ g cap cur e, φ i = some g ∧ v = .slice (some ⟨g, off, none⟩) n cap ∧ n ≤ cap ∧ cap ≤ maxLen ∧ w.heap[g]? = some (.cells cur e (0, 0)) ∧ off + cap * sz = cur.size)
 | .ptr i off, v => i < m ∧ ∃ g, φ i = some g ∧ v = .pointer (some ⟨g, off, none⟩)
 | .agg cells, v => ∃ vs : List Value, v = .agg vs.toArray ∧ RepVs cells vs
 | .clo f caps, v => ∃ vs : List Value, v = .func (.func f) #[] vs.toArray ∧ RepVs caps vs
 | .tup ds, v => ∃ vs : List Value, v = .tuple vs.toArray ∧ RepVs ds vs
 | .guarded c r, v => (c = true → RepV r v) ∧ (c = false → v = undef)
 | .dead, _ => True
 | .emp, v => ∃ a, v = .slice a 0 0 ∧ (a = none ∨ ∃ g, a = some ⟨g, 0, none⟩)
 | .slf i, v => i < m ∧ ∃ g cur e, φ i = some g ∧ w.heap[g]? = some (.cells cur e (0, 0)) ∧ cur.size = 2 ∧ (v = .pointer none ∨ v = .pointer (some ⟨g, 0, none⟩))
def RepVs : List V → List Value → Prop
 | [], vs => vs = []
 | d :: ds, vs => ∃ v vs', vs = v :: vs' ∧ RepV d v ∧ RepVs ds vs'
end
end

def V.kill (i : Nat) : V → V
 | .own j off n sz => if j = i then .dead else .own j off n sz
 | .ptr j off => if j = i then .dead else .ptr j off
 | .slf j => if j = i then .dead else .slf j
 | .agg cells => .agg (kills i cells)
 | .clo f caps => .clo f (kills i caps)
 | .tup vs => .tup (kills i vs)
 | .guarded c r => .guarded c (r.kill i)
 | v => v
where
 kills (i : Nat) : List V → List V
 | [] => []
 | v :: vs => v.kill i :: kills i vs

theorem V.kills_eq (i : Nat) : ∀ l, V.kill.kills i l = l.map (V.kill i)
 | [] => rfl
 | v :: vs => by simp [V.kill.kills, V.kills_eq i vs]

structure Turns (w : World) (S : Nat → Prop) (φ : Nat → Option Nat) (m : Nat) (w' : World) (S' : Nat → Prop) (φ' : Nat → Option Nat) (m' : Nat) (skip : Nat → Prop) : Prop where
 keeps : Keeps w S w' S'
 oth : KeepsOthers w w'
 le : m ≤ m'
 own : ∀ i, i < m → ¬ skip i → φ' i = φ i ∧ ∀ g, φ i = some g → ∀ cur e, w.heap[g]? = some (.cells cur e (0, 0)) → ∃ cur', w'.heap[g]? = some (.cells cur' e (0, 0)) ∧ cur.size = cur'.size

theorem Turns.low {w w' : World} {S S' : Nat → Prop} {φ φ' : Nat → Option Nat} {m m' g : Nat} {skip : Nat → Prop} (h : Turns w S φ m w' S' φ' m' skip) (hg : g ≤ m) : Turns w S φ g w' S' φ' g skip :=
 ⟨h.keeps, h.oth, Nat.le_refl _, fun i hi => h.own i (by omega)⟩

section
variable {w w' : World} {S S' : Nat → Prop} {φ φ' : Nat → Option Nat} {m m' : Nat}
mutual
theorem RepV.mono (h : Turns w S φ m w' S' φ' m' (fun _ => False)) : ∀ (d : V) (v : Value), RepV w S φ m d v → RepV w' S' φ' m' d v
 | .d x, v, hv => by simp only [RepV] at hv ⊢; exact RepD.mono h.keeps x v hv
 | .own i off n sz, v, hv => by
  simp only [RepV] at hv ⊢
  obtain ⟨hi, hv⟩ := hv
  obtain ⟨hφ, hb⟩ := h.own i hi id
  refine ⟨Nat.lt_of_lt_of_le hi h.le, hv.imp id ?_⟩
  rintro ⟨g, cap, cur, e, hg, rfl, hn, hm, hh, hr⟩
  obtain ⟨cur', hh', hs⟩ := hb g hg cur e hh
  exact ⟨g, cap, cur', e, hφ.trans hg, rfl, hn, hm, hh', hr.trans hs⟩
 | .ptr i off, v, hv => by
  simp only [RepV] at hv ⊢
  obtain ⟨hi, g, hg, rfl⟩ := hv
  exact ⟨Nat.lt_of_lt_of_le hi h.le, g, (h.own i hi id).1.trans hg, rfl⟩
 | .agg cells, v, hv => by
  simp only [RepV] at hv ⊢
  obtain ⟨vs, rfl, hr⟩ := hv
  exact ⟨vs, rfl, RepVs.mono h cells vs hr⟩
 | .clo f caps, v, hv => by
  simp only [RepV] at hv ⊢
  obtain ⟨vs, rfl, hr⟩ := hv
  exact ⟨vs, rfl, RepVs.mono h caps vs hr⟩
 | .tup ds, v, hv => by
  simp only [RepV] at hv ⊢
  obtain ⟨vs, rfl, hr⟩ := hv
  exact ⟨vs, rfl, RepVs.mono h ds vs hr⟩
 | .guarded c r, v, hv => by simp only [RepV] at hv ⊢; exact ⟨fun hc => RepV.mono h r v (hv.1 hc), hv.2⟩
 | .dead, _, _ => by simp [RepV]
 | .emp, _, hv => by simpa only [RepV] using hv
 | .slf i, v, hv => by
  simp only [RepV] at hv ⊢
  obtain ⟨hi, g, cur, e, hg, hh, hs, hv⟩ := hv
  obtain ⟨cur', hh', hs'⟩ := (h.own i hi id).2 g hg cur e hh
  exact ⟨Nat.lt_of_lt_of_le hi h.le, g, cur', e, (h.own i hi id).1.trans hg, hh', hs'.symm.trans hs, hv⟩
theorem RepVs.mono (h : Turns w S φ m w' S' φ' m' (fun _ => False)) : ∀ (ds : List V) (vs : List Value), RepVs w S φ m ds vs → RepVs w' S' φ' m' ds vs
 | [], vs, hv => by simpa [RepVs] using hv
 | d :: ds, vs, hv => by
  simp only [RepVs] at hv ⊢
  obtain ⟨v, vs', rfl, hr, ht⟩ := hv
  exact ⟨v, vs', rfl, RepV.mono h d v hr, RepVs.mono h ds vs' ht⟩
end

mutual
theorem RepV.killed {k : Nat} (h : Turns w S φ m w' S' φ' m' (· = k)) : ∀ (d : V) (v : Value), RepV w S φ m d v → RepV w' S' φ' m' (d.kill k) v
 | .d x, v, hv => by simp only [V.kill, RepV] at hv ⊢; exact RepD.mono h.keeps x v hv
 | .own i off n sz, v, hv => by
  simp only [V.kill]
  split
  · simp [RepV]
  ·
   rename_i hik
   simp only [RepV] at hv ⊢
   obtain ⟨hi, hv⟩ := hv
   obtain ⟨hφ, hb⟩ := h.own i hi hik
   refine ⟨Nat.lt_of_lt_of_le hi h.le, hv.imp id ?_⟩
   rintro ⟨g, cap, cur, e, hg, rfl, hn, hm, hh, hr⟩
   obtain ⟨cur', hh', hs⟩ := hb g hg cur e hh
   exact ⟨g, cap, cur', e, hφ.trans hg, rfl, hn, hm, hh', hr.trans hs⟩
 | .ptr i off, v, hv => by
  simp only [V.kill]
  split
  · simp [RepV]
  ·
   rename_i hik
   simp only [RepV] at hv ⊢
   obtain ⟨hi, g, hg, rfl⟩ := hv
   exact ⟨Nat.lt_of_lt_of_le hi h.le, g, (h.own i hi hik).1.trans hg, rfl⟩
 | .agg cells, v, hv => by
  simp only [V.kill, RepV] at hv ⊢
  obtain ⟨vs, rfl, hr⟩ := hv
  exact ⟨vs, rfl, RepVs.killed h cells vs hr⟩
 | .clo f caps, v, hv => by
  simp only [V.kill, RepV] at hv ⊢
  obtain ⟨vs, rfl, hr⟩ := hv
  exact ⟨vs, rfl, RepVs.killed h caps vs hr⟩
 | .tup ds, v, hv => by
  simp only [V.kill, RepV] at hv ⊢
  obtain ⟨vs, rfl, hr⟩ := hv
  exact ⟨vs, rfl, RepVs.killed h ds vs hr⟩
 | .guarded c r, v, hv => by simp only [V.kill, RepV] at hv ⊢; exact ⟨fun hc => RepV.killed h r v (hv.1 hc), hv.2⟩
 | .dead, _, _ => by simp [V.kill, RepV]
 | .emp, _, hv => by simpa only [V.kill, RepV] using hv
 | .slf i, v, hv => by
  simp only [V.kill]
  split
  · simp [RepV]
  ·
   rename_i hik
   simp only [RepV] at hv ⊢
   obtain ⟨hi, g, cur, e, hg, hh, hs, hv⟩ := hv
   obtain ⟨cur', hh', hs'⟩ := (h.own i hi hik).2 g hg cur e hh
   exact ⟨Nat.lt_of_lt_of_le hi h.le, g, cur', e, (h.own i hi hik).1.trans hg, hh', hs'.symm.trans hs, hv⟩
theorem RepVs.killed {k : Nat} (h : Turns w S φ m w' S' φ' m' (· = k)) : ∀ (ds : List V) (vs : List Value), RepVs w S φ m ds vs → RepVs w' S' φ' m' (V.kill.kills k ds) vs
 | [], vs, hv => by simpa [RepVs, V.kill.kills] using hv
 | d :: ds, vs, hv => by
  simp only [RepVs, V.kill.kills] at hv ⊢
  obtain ⟨v, vs', rfl, hr, ht⟩ := hv
  exact ⟨v, vs', rfl, RepV.killed h d v hr, RepVs.killed h ds vs' ht⟩
end

theorem RepVs.length : ∀ (ds : List V) (vs : List Value), RepVs w S φ m ds vs → vs.length = ds.length
 | [], vs, h => by simp only [RepVs] at h; simp [h]
 | d :: ds, vs, h => by
  simp only [RepVs] at h
  obtain ⟨v, vs', rfl, _, ht⟩ := h
  simp [RepVs.length ds vs' ht]

theorem RepVs.get : ∀ (ds : List V) (vs : List Value), RepVs w S φ m ds vs → ∀ k, k < ds.length → ∃ v, vs[k]? = some v ∧ RepV w S φ m (ds.getD k .dead) v
 | [], _, _, k, hk => by simp at hk
 | d :: ds, vs, h, k, hk => by
  simp only [RepVs] at h
  obtain ⟨v, vs', rfl, hr, ht⟩ := h
  cases k with
  | zero => exact ⟨v, rfl, by simpa using hr⟩
  | succ k => simpa using RepVs.get ds vs' ht k (by simpa using hk)

theorem RepVs.intro : ∀ (ds : List V) (vs : List Value), vs.length = ds.length → (∀ k, k < ds.length → ∀ v, vs[k]? = some v → RepV w S φ m (ds.getD k .dead) v) → RepVs w S φ m ds vs
 | [], vs, hl, _ => by simpa [RepVs] using hl
 | d :: ds, [], hl, _ => by simp at hl
 | d :: ds, v :: vs, hl, h => by
  simp only [RepVs]
  exact ⟨v, vs, rfl, by simpa using h 0 (by simp) v rfl, RepVs.intro ds vs (by simpa using hl) fun k hk u hu => by simpa using h (k + 1) (by simpa using hk) u hu⟩

theorem RepVs.append {ds es : List V} {vs us : List Value} (h : RepVs w S φ m ds vs) (k : RepVs w S φ m es us) : RepVs w S φ m (ds ++ es) (vs ++ us) := by
 induction ds generalizing vs with
 | nil => simp only [RepVs] at h; subst h; simpa using k
 | cons d ds ih =>
  simp only [RepVs, List.cons_append] at h ⊢
  obtain ⟨v, vs', rfl, hr, ht⟩ := h
  exact ⟨v, vs' ++ us, rfl, hr, ih ht⟩

theorem RepVs.set {ds : List V} {vs : List Value} (h : RepVs w S φ m ds vs) (k : Nat) {d : V} {v : Value} (hv : RepV w S φ m d v) : RepVs w S φ m (ds.set k d) (vs.set k v) := by
 induction ds generalizing vs k with
 | nil => simp only [RepVs] at h; subst h; simp [RepVs]
 | cons e ds ih =>
  simp only [RepVs] at h
  obtain ⟨u, vs', rfl, hr, ht⟩ := h
  cases k with
  | zero => simp only [List.set_cons_zero, RepVs]; exact ⟨v, vs', rfl, hv, ht⟩
  | succ k => simp only [List.set_cons_succ, RepVs]; exact ⟨u, _, rfl, hr, ih ht k⟩
end
end Go.PW
