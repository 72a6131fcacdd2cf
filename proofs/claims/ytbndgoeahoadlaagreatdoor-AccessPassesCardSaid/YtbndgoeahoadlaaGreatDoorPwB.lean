import Derived.Below
import Derived.Tactics
import Derived.Orders
import Derived.Laws.AppendOwn
import Derived.Laws.MakeOwn
import Derived.Laws.NewBlocks
import Derived.RangeFuncOwn
import Derived.RangeFuncLeaves
import Derived.OrdersIn
import Derived.TacticsIn
set_option linter.all false
namespace Go.PW
open Go.RowKit

inductive D
  | val (x : Value)
  | list (n : Nat) (cells : List D)
  | ref (cells : List D)
  | agg (cells : List D)
  | clo (f : FuncId) (caps : List D)
  | tup (ds : List D)

instance : Inhabited D := ⟨.val (.int .i64 0)⟩

section
variable (w : World) (S : Nat → Prop)
mutual
def RepD : D → Value → Prop
  | .val x, v => v = x
  | .list n cells, v => ∃ a cap, v = .slice a n cap ∧ n ≤ cap ∧ (cells = [] ∨ ∃ b o, a = some ⟨b, o, none⟩ ∧ RepCells cells b o)
  | .ref cells, v => ∃ b o, v = .pointer (some ⟨b, o, none⟩) ∧ RepCells cells b o
  | .agg cells, v => ∃ vs : List Value, v = .agg vs.toArray ∧ RepAll cells vs
  | .clo f caps, v => ∃ vs : List Value, v = .func (.func f) #[] vs.toArray ∧ RepAll caps vs
  | .tup ds, v => ∃ vs : List Value, v = .tuple vs.toArray ∧ RepAll ds vs
def RepCells : List D → Nat → Nat → Prop
  | [], _, _ => True
  | d :: ds, b, o => (S b ∧ ∃ v, w.cell? ⟨b, o, none⟩ = some v ∧ RepD d v) ∧ RepCells ds b (o + 1)
def RepAll : List D → List Value → Prop
  | [], vs => vs = []
  | d :: ds, vs => ∃ v vs', vs = v :: vs' ∧ RepD d v ∧ RepAll ds vs'
end
end

def Keeps (w : World) (S : Nat → Prop) (w' : World) (S' : Nat → Prop) : Prop :=
  ∀ b o x, S b → w.cell? ⟨b, o, none⟩ = some x → w'.cell? ⟨b, o, none⟩ = some x ∧ S' b

section
variable {w w' : World} {S S' : Nat → Prop}
mutual
theorem RepD.mono (h : Keeps w S w' S') : ∀ (d : D) (v : Value), RepD w S d v → RepD w' S' d v
  | .val x, v, hv => by simpa [RepD] using hv
  | .list n cells, v, hv => by
    simp only [RepD] at hv ⊢
    obtain ⟨a, cap, rfl, hn, hc⟩ := hv
    refine ⟨a, cap, rfl, hn, hc.imp id ?_⟩
    rintro ⟨b, o, rfl, hr⟩
    exact ⟨b, o, rfl, RepCells.mono h cells b o hr⟩
  | .ref cells, v, hv => by
    simp only [RepD] at hv ⊢
    obtain ⟨b, o, rfl, hr⟩ := hv
    exact ⟨b, o, rfl, RepCells.mono h cells b o hr⟩
  | .agg cells, v, hv => by
    simp only [RepD] at hv ⊢
    obtain ⟨vs, rfl, hr⟩ := hv
    exact ⟨vs, rfl, RepAll.mono h cells vs hr⟩
  | .clo f caps, v, hv => by
    simp only [RepD] at hv ⊢
    obtain ⟨vs, rfl, hr⟩ := hv
    exact ⟨vs, rfl, RepAll.mono h caps vs hr⟩
  | .tup ds, v, hv => by
    simp only [RepD] at hv ⊢
    obtain ⟨vs, rfl, hr⟩ := hv
    exact ⟨vs, rfl, RepAll.mono h ds vs hr⟩
theorem RepCells.mono (h : Keeps w S w' S') : ∀ (ds : List D) (b o : Nat), RepCells w S ds b o → RepCells w' S' ds b o
  | [], _, _, _ => by simp [RepCells]
  | d :: ds, b, o, hv => by
    simp only [RepCells] at hv ⊢
    obtain ⟨⟨hs, v, hc, hr⟩, ht⟩ := hv
    exact ⟨⟨(h b o v hs hc).2, v, (h b o v hs hc).1, RepD.mono h d v hr⟩, RepCells.mono h ds b (o + 1) ht⟩
theorem RepAll.mono (h : Keeps w S w' S') : ∀ (ds : List D) (vs : List Value), RepAll w S ds vs → RepAll w' S' ds vs
  | [], vs, hv => by simpa [RepAll] using hv
  | d :: ds, vs, hv => by
    simp only [RepAll] at hv ⊢
    obtain ⟨v, vs', rfl, hr, ht⟩ := hv
    exact ⟨v, vs', rfl, RepD.mono h d v hr, RepAll.mono h ds vs' ht⟩
end

theorem RepAll.length : ∀ (ds : List D) (vs : List Value), RepAll w S ds vs → vs.length = ds.length
  | [], vs, h => by simp only [RepAll] at h; simp [h]
  | d :: ds, vs, h => by
    simp only [RepAll] at h
    obtain ⟨v, vs', rfl, _, ht⟩ := h
    simp [RepAll.length ds vs' ht]

theorem RepAll.get : ∀ (ds : List D) (vs : List Value), RepAll w S ds vs → ∀ k, k < ds.length → RepD w S (ds.getD k default) (vs.getD k undef)
  | [], _, _, k, hk => by simp at hk
  | d :: ds, vs, h, k, hk => by
    simp only [RepAll] at h
    obtain ⟨v, vs', rfl, hr, ht⟩ := h
    cases k with
    | zero => simpa using hr
    | succ k => simpa using RepAll.get ds vs' ht k (by simpa using hk)

theorem RepCells.get : ∀ (ds : List D) (b o : Nat), RepCells w S ds b o → ∀ k, k < ds.length → S b ∧ ∃ v, w.cell? ⟨b, o + k, none⟩ = some v ∧ RepD w S (ds.getD k default) v
  | [], _, _, _, k, hk => by simp at hk
  | d :: ds, b, o, h, k, hk => by
    simp only [RepCells] at h
    obtain ⟨⟨hs, v, hc, hr⟩, ht⟩ := h
    cases k with
    | zero => exact ⟨hs, v, by simpa using hc, by simpa using hr⟩
    | succ k =>
      have := RepCells.get ds b (o + 1) ht k (by simpa using hk)
      rw [show o + 1 + k = o + (k + 1) by omega] at this
      simpa using this

theorem RepCells.intro : ∀ (ds : List D) (b o : Nat), (∀ k, k < ds.length → S b ∧ ∃ v, w.cell? ⟨b, o + k, none⟩ = some v ∧ RepD w S (ds.getD k default) v) → RepCells w S ds b o
  | [], _, _, _ => by simp [RepCells]
  | d :: ds, b, o, h => by
    simp only [RepCells]
    refine ⟨?_, RepCells.intro ds b (o + 1) fun k hk => ?_⟩
    · have := h 0 (by simp)
      simpa using this
    · have := h (k + 1) (by simpa using hk)
      rw [show o + (k + 1) = o + 1 + k by omega] at this
      simpa using this

end

def sub (cells : List D) (k n : Nat) : List D := (List.range n).map fun j => cells.getD (k + j) default
@[simp] theorem sub_length (cells : List D) (k n : Nat) : (sub cells k n).length = n := by simp [sub]
theorem sub_getD (cells : List D) (k n j : Nat) (h : j < n) : (sub cells k n).getD j default = cells.getD (k + j) default := by
  simp [sub, List.getD_eq_getElem?_getD, h]

theorem RepCells.sub {w : World} {S : Nat → Prop} {ds : List D} {b o : Nat} (h : RepCells w S ds b o) (k n : Nat) (hk : k + n ≤ ds.length) : RepCells w S (sub ds k n) b (o + k) := by
  refine RepCells.intro _ _ _ fun j hj => ?_
  rw [sub_length] at hj
  rw [sub_getD _ _ _ _ hj, Nat.add_assoc]
  exact RepCells.get ds b o h (k + j) (by omega)


inductive V
  | d (x : D)
  | own (i off n sz : Nat)
  | ptr (i off : Nat)
  | agg (cells : List V)
  | clo (f : FuncId) (caps : List V)
  | tup (vs : List V)
  | guarded (c : Bool) (r : V)
  | dead
  | slf (i : Nat)
  | emp
  | bnd (f : FuncId) (x : D)
  deriving Inhabited

structure Ob where
  cells : List V
  e : TypeId

structure Env where
  nt : Nat
  tmps : List (Nat × V)
  objs : List Ob
  gs : Nat × List (V × Value × Nat) := (0, [])
  th : (Nat → World → Prop) × Bool := (fun _ _ => True, false)

section
variable (w : World) (S : Nat → Prop) (φ : Nat → Option Nat) (m : Nat)
mutual
def RepV : V → Value → Prop
  | .d x, v => RepD w S x v
  | .own i off n sz, v => i < m ∧ ((∃ a, v = .slice a 0 0 ∧ n = 0 ∧ (off = 0 → a = none)) ∨
      ∃ g cap cur e, φ i = some g ∧ v = .slice (some ⟨g, off, none⟩) n cap ∧ n ≤ cap ∧ cap ≤ maxLen ∧ w.heap[g]? = some (.cells cur e (0, 0)) ∧ off + cap * sz = cur.size)
  | .ptr i off, v => i < m ∧ ∃ g, φ i = some g ∧ v = .pointer (some ⟨g, off, none⟩)
  | .agg cells, v => ∃ vs : List Value, v = .agg vs.toArray ∧ RepVs cells vs
  | .clo f caps, v => ∃ vs : List Value, v = .func (.func f) #[] vs.toArray ∧ RepVs caps vs
  | .tup ds, v => ∃ vs : List Value, v = .tuple vs.toArray ∧ RepVs ds vs
  | .guarded c r, v => (c = true → RepV r v) ∧ (c = false → v = undef)
  | .dead, _ => True
  | .emp, v => ∃ a, v = .slice a 0 0 ∧ (a = none ∨ ∃ g, a = some ⟨g, 0, none⟩)
  | .bnd f x, v => ∃ u, v = .func (.func f) #[u] #[] ∧ RepD w S x u
  | .slf i, v => i < m ∧ ∃ g cur e, φ i = some g ∧ w.heap[g]? = some (.cells cur e (0, 0)) ∧ cur.size = 2 ∧ (v = .pointer none ∨ v = .pointer (some ⟨g, 0, none⟩))
def RepVs : List V → List Value → Prop
  | [], vs => vs = []
  | d :: ds, vs => ∃ v vs', vs = v :: vs' ∧ RepV d v ∧ RepVs ds vs'
end
end

def V.kill (i : Nat) : V → V
  | .own j off n sz => if j = i then .dead else .own j off n sz
  | .ptr j off => if j = i then .dead else .ptr j off
  | .slf j => if j = i then .dead else .slf j
  | .agg cells => .agg (kills i cells)
  | .clo f caps => .clo f (kills i caps)
  | .tup vs => .tup (kills i vs)
  | .guarded c r => .guarded c (r.kill i)
  | v => v
where
  kills (i : Nat) : List V → List V
  | [] => []
  | v :: vs => v.kill i :: kills i vs

theorem V.kills_eq (i : Nat) : ∀ l, V.kill.kills i l = l.map (V.kill i)
  | [] => rfl
  | v :: vs => by simp [V.kill.kills, V.kills_eq i vs]

structure Turns (w : World) (S : Nat → Prop) (φ : Nat → Option Nat) (m : Nat) (w' : World) (S' : Nat → Prop) (φ' : Nat → Option Nat) (m' : Nat) (skip : Nat → Prop) : Prop where
  keeps : Keeps w S w' S'
  oth : KeepsOthers w w'
  le : m ≤ m'
  own : ∀ i, i < m → ¬ skip i → φ' i = φ i ∧ ∀ g, φ i = some g → ∀ cur e, w.heap[g]? = some (.cells cur e (0, 0)) → ∃ cur', w'.heap[g]? = some (.cells cur' e (0, 0)) ∧ cur.size = cur'.size

theorem Turns.low {w w' : World} {S S' : Nat → Prop} {φ φ' : Nat → Option Nat} {m m' g : Nat} {skip : Nat → Prop} (h : Turns w S φ m w' S' φ' m' skip) (hg : g ≤ m) : Turns w S φ g w' S' φ' g skip :=
  ⟨h.keeps, h.oth, Nat.le_refl _, fun i hi => h.own i (by omega)⟩

section
variable {w w' : World} {S S' : Nat → Prop} {φ φ' : Nat → Option Nat} {m m' : Nat}
mutual
theorem RepV.mono (h : Turns w S φ m w' S' φ' m' (fun _ => False)) : ∀ (d : V) (v : Value), RepV w S φ m d v → RepV w' S' φ' m' d v
  | .d x, v, hv => by simp only [RepV] at hv ⊢; exact RepD.mono h.keeps x v hv
  | .own i off n sz, v, hv => by
    simp only [RepV] at hv ⊢
    obtain ⟨hi, hv⟩ := hv
    obtain ⟨hφ, hb⟩ := h.own i hi id
    refine ⟨Nat.lt_of_lt_of_le hi h.le, hv.imp id ?_⟩
    rintro ⟨g, cap, cur, e, hg, rfl, hn, hm, hh, hr⟩
    obtain ⟨cur', hh', hs⟩ := hb g hg cur e hh
    exact ⟨g, cap, cur', e, hφ.trans hg, rfl, hn, hm, hh', hr.trans hs⟩
  | .ptr i off, v, hv => by
    simp only [RepV] at hv ⊢
    obtain ⟨hi, g, hg, rfl⟩ := hv
    exact ⟨Nat.lt_of_lt_of_le hi h.le, g, (h.own i hi id).1.trans hg, rfl⟩
  | .agg cells, v, hv => by
    simp only [RepV] at hv ⊢
    obtain ⟨vs, rfl, hr⟩ := hv
    exact ⟨vs, rfl, RepVs.mono h cells vs hr⟩
  | .clo f caps, v, hv => by
    simp only [RepV] at hv ⊢
    obtain ⟨vs, rfl, hr⟩ := hv
    exact ⟨vs, rfl, RepVs.mono h caps vs hr⟩
  | .tup ds, v, hv => by
    simp only [RepV] at hv ⊢
    obtain ⟨vs, rfl, hr⟩ := hv
    exact ⟨vs, rfl, RepVs.mono h ds vs hr⟩
  | .guarded c r, v, hv => by simp only [RepV] at hv ⊢; exact ⟨fun hc => RepV.mono h r v (hv.1 hc), hv.2⟩
  | .dead, _, _ => by simp [RepV]
  | .emp, _, hv => by simpa only [RepV] using hv
  | .bnd f x, v, hv => by simp only [RepV] at hv ⊢; obtain ⟨u, e, hr⟩ := hv; exact ⟨u, e, RepD.mono h.keeps x u hr⟩
  | .slf i, v, hv => by
    simp only [RepV] at hv ⊢
    obtain ⟨hi, g, cur, e, hg, hh, hs, hv⟩ := hv
    obtain ⟨cur', hh', hs'⟩ := (h.own i hi id).2 g hg cur e hh
    exact ⟨Nat.lt_of_lt_of_le hi h.le, g, cur', e, (h.own i hi id).1.trans hg, hh', hs'.symm.trans hs, hv⟩
theorem RepVs.mono (h : Turns w S φ m w' S' φ' m' (fun _ => False)) : ∀ (ds : List V) (vs : List Value), RepVs w S φ m ds vs → RepVs w' S' φ' m' ds vs
  | [], vs, hv => by simpa [RepVs] using hv
  | d :: ds, vs, hv => by
    simp only [RepVs] at hv ⊢
    obtain ⟨v, vs', rfl, hr, ht⟩ := hv
    exact ⟨v, vs', rfl, RepV.mono h d v hr, RepVs.mono h ds vs' ht⟩
end

mutual
theorem RepV.killed {k : Nat} (h : Turns w S φ m w' S' φ' m' (· = k)) : ∀ (d : V) (v : Value), RepV w S φ m d v → RepV w' S' φ' m' (d.kill k) v
  | .d x, v, hv => by simp only [V.kill, RepV] at hv ⊢; exact RepD.mono h.keeps x v hv
  | .own i off n sz, v, hv => by
    simp only [V.kill]
    split
    · simp [RepV]
    · rename_i hik
      simp only [RepV] at hv ⊢
      obtain ⟨hi, hv⟩ := hv
      obtain ⟨hφ, hb⟩ := h.own i hi hik
      refine ⟨Nat.lt_of_lt_of_le hi h.le, hv.imp id ?_⟩
      rintro ⟨g, cap, cur, e, hg, rfl, hn, hm, hh, hr⟩
      obtain ⟨cur', hh', hs⟩ := hb g hg cur e hh
      exact ⟨g, cap, cur', e, hφ.trans hg, rfl, hn, hm, hh', hr.trans hs⟩
  | .ptr i off, v, hv => by
    simp only [V.kill]
    split
    · simp [RepV]
    · rename_i hik
      simp only [RepV] at hv ⊢
      obtain ⟨hi, g, hg, rfl⟩ := hv
      exact ⟨Nat.lt_of_lt_of_le hi h.le, g, (h.own i hi hik).1.trans hg, rfl⟩
  | .agg cells, v, hv => by
    simp only [V.kill, RepV] at hv ⊢
    obtain ⟨vs, rfl, hr⟩ := hv
    exact ⟨vs, rfl, RepVs.killed h cells vs hr⟩
  | .clo f caps, v, hv => by
    simp only [V.kill, RepV] at hv ⊢
    obtain ⟨vs, rfl, hr⟩ := hv
    exact ⟨vs, rfl, RepVs.killed h caps vs hr⟩
  | .tup ds, v, hv => by
    simp only [V.kill, RepV] at hv ⊢
    obtain ⟨vs, rfl, hr⟩ := hv
    exact ⟨vs, rfl, RepVs.killed h ds vs hr⟩
  | .guarded c r, v, hv => by simp only [V.kill, RepV] at hv ⊢; exact ⟨fun hc => RepV.killed h r v (hv.1 hc), hv.2⟩
  | .dead, _, _ => by simp [V.kill, RepV]
  | .emp, _, hv => by simpa only [V.kill, RepV] using hv
  | .bnd f x, v, hv => by simp only [V.kill, RepV] at hv ⊢; obtain ⟨u, e, hr⟩ := hv; exact ⟨u, e, RepD.mono h.keeps x u hr⟩
  | .slf i, v, hv => by
    simp only [V.kill]
    split
    · simp [RepV]
    · rename_i hik
      simp only [RepV] at hv ⊢
      obtain ⟨hi, g, cur, e, hg, hh, hs, hv⟩ := hv
      obtain ⟨cur', hh', hs'⟩ := (h.own i hi hik).2 g hg cur e hh
      exact ⟨Nat.lt_of_lt_of_le hi h.le, g, cur', e, (h.own i hi hik).1.trans hg, hh', hs'.symm.trans hs, hv⟩
theorem RepVs.killed {k : Nat} (h : Turns w S φ m w' S' φ' m' (· = k)) : ∀ (ds : List V) (vs : List Value), RepVs w S φ m ds vs → RepVs w' S' φ' m' (V.kill.kills k ds) vs
  | [], vs, hv => by simpa [RepVs, V.kill.kills] using hv
  | d :: ds, vs, hv => by
    simp only [RepVs, V.kill.kills] at hv ⊢
    obtain ⟨v, vs', rfl, hr, ht⟩ := hv
    exact ⟨v, vs', rfl, RepV.killed h d v hr, RepVs.killed h ds vs' ht⟩
end

theorem RepVs.length : ∀ (ds : List V) (vs : List Value), RepVs w S φ m ds vs → vs.length = ds.length
  | [], vs, h => by simp only [RepVs] at h; simp [h]
  | d :: ds, vs, h => by
    simp only [RepVs] at h
    obtain ⟨v, vs', rfl, _, ht⟩ := h
    simp [RepVs.length ds vs' ht]

theorem RepVs.get : ∀ (ds : List V) (vs : List Value), RepVs w S φ m ds vs → ∀ k, k < ds.length → ∃ v, vs[k]? = some v ∧ RepV w S φ m (ds.getD k .dead) v
  | [], _, _, k, hk => by simp at hk
  | d :: ds, vs, h, k, hk => by
    simp only [RepVs] at h
    obtain ⟨v, vs', rfl, hr, ht⟩ := h
    cases k with
    | zero => exact ⟨v, rfl, by simpa using hr⟩
    | succ k => simpa using RepVs.get ds vs' ht k (by simpa using hk)

theorem RepVs.intro : ∀ (ds : List V) (vs : List Value), vs.length = ds.length → (∀ k, k < ds.length → ∀ v, vs[k]? = some v → RepV w S φ m (ds.getD k .dead) v) → RepVs w S φ m ds vs
  | [], vs, hl, _ => by simpa [RepVs] using hl
  | d :: ds, [], hl, _ => by simp at hl
  | d :: ds, v :: vs, hl, h => by
    simp only [RepVs]
    exact ⟨v, vs, rfl, by simpa using h 0 (by simp) v rfl, RepVs.intro ds vs (by simpa using hl) fun k hk u hu => by simpa using h (k + 1) (by simpa using hk) u hu⟩

theorem RepVs.append {ds es : List V} {vs us : List Value} (h : RepVs w S φ m ds vs) (k : RepVs w S φ m es us) : RepVs w S φ m (ds ++ es) (vs ++ us) := by
  induction ds generalizing vs with
  | nil => simp only [RepVs] at h; subst h; simpa using k
  | cons d ds ih =>
    simp only [RepVs, List.cons_append] at h ⊢
    obtain ⟨v, vs', rfl, hr, ht⟩ := h
    exact ⟨v, vs' ++ us, rfl, hr, ih ht⟩

theorem RepVs.set {ds : List V} {vs : List Value} (h : RepVs w S φ m ds vs) (k : Nat) {d : V} {v : Value} (hv : RepV w S φ m d v) : RepVs w S φ m (ds.set k d) (vs.set k v) := by
  induction ds generalizing vs k with
  | nil => simp only [RepVs] at h; subst h; simp [RepVs]
  | cons e ds ih =>
    simp only [RepVs] at h
    obtain ⟨u, vs', rfl, hr, ht⟩ := h
    cases k with
    | zero => simp only [List.set_cons_zero, RepVs]; exact ⟨v, vs', rfl, hv, ht⟩
    | succ k => simp only [List.set_cons_succ, RepVs]; exact ⟨u, _, rfl, hr, ih ht k⟩
end

def gtab : List (Nat × List Value) := [(0, [.bool false, .bool false, .bool false, .bool false, .bool true, .bool false, .bool true, .bool true, .bool false, .bool true, .bool true, .bool true, .bool false, .bool false, .bool true, .bool true, .bool false, .bool true, .bool false, .bool false, .bool false, .bool false, .bool false, .bool true]), (1, [.int .u64 1, .int .u64 10, .int .u64 100, .int .u64 1000, .int .u64 10000, .int .u64 100000, .int .u64 1000000, .int .u64 10000000, .int .u64 100000000, .int .u64 1000000000, .int .u64 10000000000, .int .u64 100000000000, .int .u64 1000000000000, .int .u64 10000000000000, .int .u64 100000000000000, .int .u64 1000000000000000, .int .u64 10000000000000000, .int .u64 100000000000000000, .int .u64 1000000000000000000, .int .u64 10000000000000000000])]
def GI (B : Nat) (w : World) (S : Nat → Prop) : Prop := ∀ x ∈ gtab, x.1 < B ∧ S x.1 ∧ ∃ e r, w.heap[x.1]? = some (.cells x.2.toArray e r)
theorem GI.cell {B : Nat} {w : World} {S : Nat → Prop} (h : GI B w S) {x : Nat × List Value} (hx : x ∈ gtab) (k : Nat) (hk : k < x.2.length) : w.cell? ⟨x.1, k, none⟩ = some (x.2.getD k undef) := by
  obtain ⟨e, r, hh⟩ := (h x hx).2.2
  simp only [World.cell?, hh]
  simp [List.getD_eq_getElem?_getD, hk]
def gval (g : Nat) : V := match gtab.find? fun x => x.1 == g with
  | some x => .d (.ref (x.2.map .val))
  | none => .dead
theorem GI.mono {B B' : Nat} {w w' : World} {S S' : Nat → Prop} (h : GI B w S) (hb : Below B w w') (hB : B ≤ B') (hS : ∀ b, b < B → S b → S' b) : GI B' w' S' := fun x hx =>
  ⟨Nat.lt_of_lt_of_le (h x hx).1 hB, hS _ (h x hx).1 (h x hx).2.1, by
    obtain ⟨e, r, hh⟩ := (h x hx).2.2
    exact ⟨e, r, (hb.block x.1 (h x hx).1).trans hh⟩⟩
theorem GI.any {B : Nat} {w : World} {S : Nat → Prop} (h : GI B w S) : GI B w (fun _ => True) := fun x hx => ⟨(h x hx).1, trivial, (h x hx).2.2⟩
theorem GI.rep {B : Nat} {w : World} {S : Nat → Prop} {φ : Nat → Option Nat} {m : Nat} (h : GI B w S) (g : Nat) : RepV w S φ m (gval g) (.pointer (some ⟨g, 0, none⟩)) := by
  unfold gval
  split
  · rename_i x hx
    have hm := List.mem_of_find?_eq_some hx
    have he : x.1 = g := by simpa using List.find?_some hx
    subst he
    simp only [RepV, RepD]
    refine ⟨x.1, 0, rfl, RepCells.intro _ _ _ fun k hk => ⟨(h x hm).2.1, x.2.getD k undef, ?_, ?_⟩⟩
    · have := h.cell hm k (by simpa using hk)
      simpa using this
    · have hk' : k < x.2.length := by simpa using hk
      simp [RepD, List.getD_eq_getElem?_getD, hk']
  · simp [RepV]
end Go.PW

namespace Go.PW
open Go.RowKit

def get : List (Nat × V) → Nat → V
  | [], _ => .dead
  | (s, v) :: l, t => if t = s then v else get l t
def put : List (Nat × V) → Nat → V → List (Nat × V)
  | [], t, v => [(t, v)]
  | (s, u) :: l, t, v => if t = s then (t, v) :: l else if t < s then (t, v) :: (s, u) :: l else (s, u) :: put l t v
theorem get_put (l : List (Nat × V)) (t : Nat) (v : V) (s : Nat) : get (put l t v) s = if s = t then v else get l s := by
  induction l with
  | nil => simp [put, get]
  | cons x l ih =>
    obtain ⟨r, u⟩ := x
    simp only [put]
    by_cases h1 : t = r
    · subst h1; simp only [if_true, get]; split <;> simp_all
    · by_cases h2 : t < r
      · simp only [h1, h2, if_false, if_true, get]
      · simp only [h1, h2, if_false, get, ih]
        by_cases h3 : s = r
        · subst h3; simp [Ne.symm h1]
        · simp [h3]

def G2 (K : List Nat) : List (Nat × V) → List (Nat × V)
  | [] => []
  | (s, v) :: l => if K.contains s then (s, v) :: G2 K l else G2 K l
theorem get_keep_out (K : List Nat) (l : List (Nat × V)) (t : Nat) (h : ¬ K.contains t = true) : get (G2 K l) t = .dead := by
  induction l with
  | nil => simp [G2, get]
  | cons x l ih =>
    obtain ⟨s, v⟩ := x
    simp only [G2]
    split
    · rename_i hs
      simp only [get]
      rw [if_neg (by rintro rfl; exact h hs)]
      exact ih
    · exact ih
theorem get_keep (K : List Nat) (l : List (Nat × V)) (t : Nat) : get (G2 K l) t = get l t ∨ get (G2 K l) t = .dead := by
  by_cases h : K.contains t = true
  · refine Or.inl ?_
    induction l with
    | nil => rfl
    | cons x l ih =>
      obtain ⟨s, v⟩ := x
      simp only [G2]
      split
      · simp only [get]; split
        · rfl
        · exact ih
      · rename_i hs
        simp only [get]
        rw [if_neg (by rintro rfl; exact hs h)]
        exact ih
  · exact Or.inr (get_keep_out K l t h)

def Env.put (env : Env) (t : Nat) (v : V) : Env := { env with tmps := PW.put env.tmps t v }
def Env.plain (env : Env) : Env := { env with gs := (0, []), th := (fun _ _ => True, env.th.2) }
theorem get_map_kill (l : List (Nat × V)) (i t : Nat) : get (l.map fun x => (x.1, x.2.kill i)) t = (get l t).kill i := by
  induction l with
  | nil => simp [get, V.kill]
  | cons x l ih =>
    obtain ⟨s, v⟩ := x
    simp only [List.map_cons, get]
    split
    · rfl
    · exact ih

def Imm (B : Nat) (S0 : Nat → Prop) (φ : Nat → Option Nat) (m : Nat) (b : Nat) : Prop := (S0 b ∨ B ≤ b) ∧ ∀ i, i < m → φ i ≠ some b

def ObRep (w : World) (S : Nat → Prop) (φ : Nat → Option Nat) (m : Nat) (i : Nat) (ob : Ob) : Prop :=
  (φ i = none ∧ ob.cells = []) ∨ ∃ g cur vals rest, φ i = some g ∧ w.heap[g]? = some (.cells cur ob.e (0, 0)) ∧ cur.toList = vals ++ rest ∧ RepVs w S φ m ob.cells vals

def mark (D : Nat) : Deferred := { target := .collected D, args := #[] }
def Marks (B : Nat) (ds : List Deferred) (th : (Nat → World → Prop) × Bool) (w : World) : Prop :=
  (th.2 = false → ds = []) ∧ (∃ Ds : List Nat, ds = Ds.map mark ∧ Ds.Nodup ∧ ∀ D ∈ Ds, B ≤ D ∧ w.heap[D]? = some (.deferred (some []))) ∧ th.1 B w ∧ ∀ w1 w2, th.1 B w1 → KeepsOthers w1 w2 → th.1 B w2
theorem Marks.keeps {B : Nat} {ds : List Deferred} {th : (Nat → World → Prop) × Bool} {w w' : World} (h : Marks B ds th w) (ho : KeepsOthers w w') : Marks B ds th w' := by
  obtain ⟨h0, ⟨Ds, h1, h2, h3⟩, h4, h5⟩ := h
  exact ⟨h0, ⟨Ds, h1, h2, fun D hD => ⟨(h3 D hD).1, ho.same _ _ (h3 D hD).2 rfl⟩⟩, h5 _ _ h4 ho, h5⟩
theorem Marks.nil (B : Nat) (b : Bool) (w : World) : Marks B [] (fun _ _ => True, b) w := ⟨fun _ => rfl, ⟨[], rfl, List.nodup_nil, fun D hD => by simp at hD⟩, trivial, fun _ _ _ _ => trivial⟩
theorem Marks.less {B : Nat} {ds : List Deferred} {th : (Nat → World → Prop) × Bool} {w : World} (h : Marks B ds th w) : Marks B ds (fun _ _ => True, th.2) w := ⟨h.1, h.2.1, trivial, fun _ _ _ _ => trivial⟩
theorem Marks.least {B : Nat} {ds : List Deferred} {th : (Nat → World → Prop) × Bool} {w : World} (h : Marks B ds th w) : Marks B ds (fun _ _ => True, true) w := ⟨fun h => (by cases h), h.2.1, trivial, fun _ _ _ _ => trivial⟩

structure Rel (B : Nat) (w0 : World) (S0 : Nat → Prop) (φ : Nat → Option Nat) (env : Env) (a : Act) (w : World) : Prop where
  below : Below B w0 w
  base : B ≤ w0.heap.size ∧ GI B w0 S0
  nodef : Marks B a.defers env.th w
  size : env.nt ≤ a.tmps.size
  tmps : ∀ t, RepV w (Imm B S0 φ env.objs.length) φ env.objs.length (get env.tmps t) (a.tmps.getD t undef)
  objs : ∀ i ob, env.objs[i]? = some ob → ObRep w (Imm B S0 φ env.objs.length) φ env.objs.length i ob
  low : ∀ i g, i < env.objs.length → φ i = some g → B ≤ g
  inj : ∀ i j g, i < env.objs.length → j < env.objs.length → φ i = some g → φ j = some g → i = j
  ghost : env.gs.1 ≤ env.objs.length ∧ ∀ x ∈ env.gs.2, x.2.2 ≤ env.gs.1 ∧ RepV w (Imm B S0 φ env.objs.length) φ x.2.2 x.1 x.2.1

section
variable {B : Nat} {w0 : World} {S0 : Nat → Prop} {φ : Nat → Option Nat} {env : Env} {a : Act} {w : World}

theorem Rel.baseW (h : Rel B w0 S0 φ env a w) : B ≤ w.heap.size := Nat.le_trans h.base.1 h.below.size

theorem put_getD (a : Act) (d : Nat) (v : Value) (t : Nat) (hd : d < a.tmps.size) : (a.put (some d) v).tmps.getD t undef = if t = d then v else a.tmps.getD t undef := by
  simp only [Act.put, Array.getD_eq_getD_getElem?, Array.getElem?_setIfInBounds]
  by_cases h : d = t
  · subst h; simp [hd]
  · rw [if_neg h, if_neg (Ne.symm h)]

theorem Rel.put (h : Rel B w0 S0 φ env a w) (d : Nat) (hd : d < env.nt) (r : V) (v : Value) (hv : RepV w (Imm B S0 φ env.objs.length) φ env.objs.length r v) :
    Rel B w0 S0 φ (env.put d r) (a.put (some d) v) w where
  below := h.below
  base := h.base
  nodef := h.nodef
  size := by simpa [Env.put, Act.put] using h.size
  tmps t := by
    simp only [Env.put, get_put]
    rw [put_getD a d v t (Nat.lt_of_lt_of_le hd h.size)]
    split
    · exact hv
    · exact h.tmps t
  objs := h.objs
  low := h.low
  inj := h.inj
  ghost := h.ghost

theorem Rel.weaken (h : Rel B w0 S0 φ env a w) {env' : Env} (hn : env'.nt ≤ env.nt) (ho : env'.objs = env.objs)
    (ht : ∀ t, get env'.tmps t = get env.tmps t ∨ get env'.tmps t = .dead) (hgs : env'.gs = env.gs) (hth : env'.th = env.th) : Rel B w0 S0 φ env' a w where
  below := h.below
  base := h.base
  nodef := by rw [hth]; exact h.nodef
  size := Nat.le_trans hn h.size
  tmps t := by
    rw [ho]
    rcases ht t with e | e
    · rw [e]; exact h.tmps t
    · rw [e]; simp [RepV]
  objs := by rw [ho]; exact h.objs
  low := by rw [ho]; exact h.low
  inj := by rw [ho]; exact h.inj
  ghost := by rw [ho, hgs]; exact h.ghost
end

def Sat (B : Nat) (w0 : World) (S0 : Nat → Prop) (Q : Exit → Env → Prop) : Exit → Act → World → Prop :=
  fun e a w => ∃ env φ, Q e env ∧ Rel B w0 S0 φ env a w

def Fd (ro : Option Nat) : Fence := { fn := fun _ => True, depth := none, alive := false, round := ro }
theorem room_Fd (ro : Option Nat) (n : Nat) : (Fd ro).room n := fun _ h => by simp [Fd] at h
theorem fenced_Fd (P : Program) (ro : Option Nat) (m : Machine) : m.fenced P (Fd ro) := by
  intro g _
  exact ⟨fun h => by simp [Fd] at h, Or.inl trivial, fun _ _ => trivial, room_Fd ro _⟩
theorem stepsIn_Fd {P : Program} {ro : Option Nat} {m m' : Machine} : StepsIn (Machine.fenced P (Fd ro)) P m m' ↔ Steps P m m' :=
  ⟨StepsIn.steps, fun h => (StepsIn.of_steps h).mono fun m _ => fenced_Fd P ro m⟩
theorem comesIn_Fd {P : Program} {ro : Option Nat} {m m' : Machine} {e : Ending} : ComesIn (Machine.fenced P (Fd ro)) P m m' e ↔ Comes P m m' e := by
  cases e with
  | returned v => exact stepsIn_Fd
  | panicked chain => exact stepsIn_Fd
  | outgrown => exact Iff.rfl
theorem F9 {n : Nat} {ro : Option Nat} {P : Program} {f : FuncId} {args : Array Value} {w : World} {R : Ending → World → Prop} : CallsIn (Fd ro) n P f args w R ↔ Calls P f args w R :=
  ⟨fun h cs => let ⟨e, w', fr, r, s, x⟩ := h.2 cs (room_Fd ro _); ⟨e, w', fr, r, comesIn_Fd.1 s, x⟩,
   fun h => ⟨trivial, fun cs _ => let ⟨e, w', fr, r, s, x⟩ := h cs; ⟨e, w', fr, r, comesIn_Fd.2 s, x⟩⟩⟩

def PW (ro : Option Nat) (P : Program) (c : Code) (Q : Exit → Env → Prop) (env : Env) : Prop :=
  ∀ B w0 S0 φ a w, Rel B w0 S0 φ env a w → c.wpIn (Fd ro) 1 P (Sat B w0 S0 Q) a w

theorem wpIn_loopS {σ : Type} {F : Fence} {n : Nat} {P : Program} {Q : Exit → Act → World → Prop} {c : Code} (R : σ → Act → World → Prop) (μ : σ → Nat) (s₀ : σ) {a : Act} {w : World} (h₀ : R s₀ a w)
    (round : ∀ s a w, R s a w → c.wpIn F n P (Exit.then (fun a' w' => ∃ s', R s' a' w' ∧ μ s' < μ s) Q) a w) : (Code.loop c).wpIn F n P Q a w := by
  intro b k cs hro hb hr
  have key : ∀ j s a w, μ s = j → R s a w →
      ∃ e a' w', Q e a' w' ∧ ArrivesIn (Machine.fenced P F) P (lone (b.atR a (.code c :: .inLoop c :: k)) cs w) b k cs e a' w' := by
    intro j
    induction j using Nat.strongRecOn with
    | _ j ih =>
      intro s a w hn hI
      obtain ⟨e, a₁, w₁, hq, harr⟩ := round s a w hI b (.inLoop c :: k) cs hro hb hr
      cases e with
      | normal =>
        obtain ⟨s', hI₁, hlt⟩ := hq
        obtain ⟨e₂, a₂, w₂, hq₂, harr₂⟩ := ih (μ s') (hn ▸ hlt) s' a₁ w₁ rfl hI₁
        exact ⟨e₂, a₂, w₂, hq₂, .of_steps (StepsIn.trans harr (.one (fenced_calm hb hr rfl) stepR_inLoop)) harr₂⟩
      | exit id => exact ⟨_, a₁, w₁, hq, .pass (x := .inLoop c) rfl (fun _ _ => .inl (by simp)) harr⟩
      | goto l => exact ⟨_, a₁, w₁, hq, .pass (x := .inLoop c) rfl (fun _ _ => .inl (by simp)) harr⟩
      | ret => exact ⟨_, a₁, w₁, hq, .pass (x := .inLoop c) rfl (fun _ _ => .inl (by simp)) harr⟩
      | panic ch => exact ⟨_, a₁, w₁, hq, .pass (x := .inLoop c) rfl (fun _ _ => .inl (by simp)) harr⟩
      | outgrown => exact ⟨_, a₁, w₁, hq, .pass (x := .inLoop c) rfl (fun _ _ => .inl (by simp)) harr⟩
  obtain ⟨e, a', w', hq, harr⟩ := key _ s₀ a w rfl h₀
  exact ⟨e, a', w', hq, .of_steps (.one (fenced_calm hb hr rfl) stepR_loop) harr⟩

def andThen (next : Env → Prop) (Q : Exit → Env → Prop) : Exit → Env → Prop
  | .normal, env => next env
  | e, env => Q e env

def inBlock (id : Nat) (Q : Exit → Env → Prop) : Exit → Env → Prop
  | .exit id', env => if id' = id then Q .normal env else Q (.exit id') env
  | e, env => Q e env

section
variable {ro : Option Nat} {P : Program} {Q : Exit → Env → Prop} {env : Env}

theorem d8 (h : Q .normal env) : PW ro P .skip Q env := fun _ _ _ φ _ _ hr => wpIn_skip ⟨env, φ, h, hr⟩
theorem PW.label {l : Nat} (h : Q .normal env) : PW ro P (.label l) Q env := fun _ _ _ φ _ _ hr => wpIn_label ⟨env, φ, h, hr⟩
theorem o6 {id : Nat} (h : Q (.exit id) env) : PW ro P (.exit id) Q env := fun _ _ _ φ _ _ hr => wpIn_exit ⟨env, φ, h, hr⟩
theorem d7 (h : Q .ret env) : PW ro P .ret Q env := fun _ _ _ φ _ _ hr => wpIn_ret ⟨env, φ, h, hr⟩

theorem b7 {x y : Code} (h : PW ro P x (andThen (PW ro P y Q) Q) env) : PW ro P (.seq x y) Q env := by
  intro B w0 S0 φ a w hr
  refine wpIn_seq (wpIn_mono (h B w0 S0 φ a w hr) ?_)
  rintro e a' w' ⟨env', φ', hq, hr'⟩
  cases e with
  | normal => exact hq B w0 S0 φ' a' w' hr'
  | _ => exact ⟨env', φ', hq, hr'⟩

theorem PW.block {id : Nat} {c : Code} (h : PW ro P c (inBlock id Q) env) : PW ro P (.block id c) Q env := by
  intro B w0 S0 φ a w hr
  refine wpIn_block (wpIn_mono (h B w0 S0 φ a w hr) ?_)
  rintro e a' w' ⟨env', φ', hq, hr'⟩
  cases e with
  | exit id' =>
    simp only [PW.inBlock] at hq
    simp only [Exit.inBlock]
    split
    · rename_i e; rw [if_pos e] at hq; exact ⟨env', φ', hq, hr'⟩
    · rename_i e; rw [if_neg e] at hq; exact ⟨env', φ', hq, hr'⟩
  | _ => exact ⟨env', φ', hq, hr'⟩

theorem PW.loopOf {σ : Type} {c : Code} (head : σ → Env) (I : σ → Prop) (μ : σ → Nat) (s₀ : σ) (h₀ : env = head s₀) (hI : I s₀)
    (round : ∀ s, I s → PW ro P c (andThen (fun env' => ∃ s', env' = head s' ∧ I s' ∧ μ s' < μ s) Q) (head s)) : PW ro P (.loop c) Q env := by
  intro B w0 S0 φ a w hr
  refine wpIn_loopS (σ := σ) (fun s a w => I s ∧ ∃ φ, Rel B w0 S0 φ (head s) a w) μ s₀ ⟨hI, φ, h₀ ▸ hr⟩ fun s a w hs => ?_
  obtain ⟨hs, φ, hr⟩ := hs
  refine wpIn_mono (round s hs B w0 S0 φ a w hr) ?_
  rintro e a' w' ⟨env', φ', hq, hr'⟩
  cases e with
  | normal =>
    obtain ⟨s', rfl, h1, h2⟩ := hq
    exact ⟨s', ⟨h1, φ', hr'⟩, h2⟩
  | _ => exact ⟨env', φ', hq, hr'⟩

theorem PW.weaken {c : Code} {env' : Env} (hn : env'.nt ≤ env.nt) (ho : env'.objs = env.objs) (ht : ∀ t, get env'.tmps t = get env.tmps t ∨ get env'.tmps t = .dead)
    (h : PW ro P c Q env') (hgs : env'.gs = env.gs) (hth : env'.th = env.th) : PW ro P c Q env := fun B w0 S0 φ a w hr => h B w0 S0 φ a w (hr.weaken hn ho ht hgs hth)

end
end Go.PW
