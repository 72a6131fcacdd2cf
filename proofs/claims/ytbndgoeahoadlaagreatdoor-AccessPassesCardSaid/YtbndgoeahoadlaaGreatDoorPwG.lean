import Derived.Test.YtbndgoeahoadlaaGreatDoorPwF
set_option linter.all false
namespace Go.PW
open Go.RowKit

section
variable {B : Nat} {w0 : World} {S0 : Nat → Prop} {φ : Nat → Option Nat} {env : Env} {a : Act} {w w' : World}

theorem heap_lt {w : World} {g : Nat} {o : Obj} (h : w.heap[g]? = some o) : g < w.heap.size := (Array.getElem?_eq_some_iff.1 h).1
theorem cell_lt {w : World} {b o : Nat} {x : Value} (h : w.cell? ⟨b, o, none⟩ = some x) : b < w.heap.size := block_lt_of_cell (a := ⟨b, o, none⟩) h

theorem Rel.turn (h : Rel B w0 S0 φ env a w) {φ' : Nat → Option Nat} {objs' : List Ob} (hb : Below B w w')
  (ht : Turns w (Imm B S0 φ env.objs.length) φ env.objs.length w' (Imm B S0 φ' objs'.length) φ' objs'.length (fun _ => False))
  (ho : ∀ i ob, objs'[i]? = some ob → ObRep w' (Imm B S0 φ' objs'.length) φ' objs'.length i ob)
  (hlow : ∀ i g, i < objs'.length → φ' i = some g → B ≤ g)
  (hinj : ∀ i j g, i < objs'.length → j < objs'.length → φ' i = some g → φ' j = some g → i = j) :
  Rel B w0 S0 φ' { env with objs := objs' } a w' where
 below := h.below.trans hb
 base := h.base
 nodef := h.nodef.keeps ht.oth
 size := h.size
 tmps t := RepV.mono ht _ _ (h.tmps t)
 objs := ho
 low := hlow
 inj := hinj
 ghost := ⟨Nat.le_trans h.ghost.1 ht.le, fun x hx => ⟨(h.ghost.2 x hx).1, RepV.mono (ht.low (Nat.le_trans (h.ghost.2 x hx).1 h.ghost.1)) _ _ (h.ghost.2 x hx).2⟩⟩

theorem Rel.turnKill (h : Rel B w0 S0 φ env a w) {φ' : Nat → Option Nat} {objs' : List Ob} (k : Nat) (hb : Below B w w')
  (ht : Turns w (Imm B S0 φ env.objs.length) φ env.objs.length w' (Imm B S0 φ' objs'.length) φ' objs'.length (· = k))
  (ho : ∀ i ob, objs'[i]? = some ob → ObRep w' (Imm B S0 φ' objs'.length) φ' objs'.length i ob)
  (hlow : ∀ i g, i < objs'.length → φ' i = some g → B ≤ g)
  (hinj : ∀ i j g, i < objs'.length → j < objs'.length → φ' i = some g → φ' j = some g → i = j) :
  Rel B w0 S0 φ' { env with tmps := env.tmps.map fun x => (x.1, x.2.kill k), objs := objs', gs := (env.gs.1, if env.gs.1 ≤ k then env.gs.2 else env.gs.2.map fun x => (x.1.kill k, x.2)) } a w' where
 below := h.below.trans hb
 base := h.base
 nodef := h.nodef.keeps ht.oth
 size := h.size
 tmps t := by rw [get_map_kill]; exact RepV.killed ht _ _ (h.tmps t)
 objs := ho
 low := hlow
 inj := hinj
 ghost := ⟨Nat.le_trans h.ghost.1 ht.le, fun x hx => by
  split at hx
  ·
   rename_i hle
   have hlow := ht.low (Nat.le_trans (h.ghost.2 x hx).1 h.ghost.1)
   have h1 := (h.ghost.2 x hx).1
   exact ⟨h1, RepV.mono ⟨hlow.keeps, hlow.oth, hlow.le, fun i hi _ => hlow.own i hi (by omega)⟩ _ _ (h.ghost.2 x hx).2⟩
  ·
   obtain ⟨y, hy, rfl⟩ := List.mem_map.1 hx
   exact ⟨(h.ghost.2 y hy).1, RepV.killed (ht.low (Nat.le_trans (h.ghost.2 y hy).1 h.ghost.1)) _ _ (h.ghost.2 y hy).2⟩⟩

theorem ObRep.mono {S S' : Nat → Prop} {w' : World} {φ' : Nat → Option Nat} {m m' i : Nat} {ob : Ob} (ht : Turns w S φ m w' S' φ' m' (fun _ => False)) (h : ObRep w S φ m i ob)
  (hφ : φ' i = φ i) (hb : ∀ g, φ i = some g → w'.heap[g]? = w.heap[g]?) : ObRep w' S' φ' m' i ob := by
 rcases h with ⟨h1, h2⟩ | ⟨g, cur, vals, rest, h1, h2, h3, h4⟩
 · exact .inl ⟨hφ.trans h1, h2⟩
 · exact .inr ⟨g, cur, vals, rest, hφ.trans h1, (hb g h1).trans h2, h3, RepVs.mono ht _ _ h4⟩

def φnew (φ : Nat → Option Nat) (m : Nat) (g : Option Nat) : Nat → Option Nat := fun i => if i = m then g else φ i
theorem w6 (φ : Nat → Option Nat) (m : Nat) (g : Option Nat) : φnew φ m g m = g := by simp [φnew]
theorem G3 (φ : Nat → Option Nat) {m i : Nat} (g : Option Nat) (h : i < m) : φnew φ m g i = φ i := by simp [φnew, Nat.ne_of_lt h]

theorem Rel.live_lt (h : Rel B w0 S0 φ env a w) {i g : Nat} (hi : i < env.objs.length) (hg : φ i = some g) : g < w.heap.size := by
 have := h.objs i env.objs[i] (by simp [hi])
 rcases this with ⟨h1, _⟩ | ⟨g', cur, vals, rest, h1, h2, _⟩
 · rw [hg] at h1; cases h1
 · rw [hg] at h1; cases h1; exact heap_lt h2

structure Grows (w w' : World) : Prop where
 below : Below w.heap.size w w'

theorem Grows.alloc (w : World) (o : Obj) : Grows w (w.alloc o) := ⟨(Below.refl _ w).alloc (Nat.le_refl _) o⟩
theorem Grows.drew (w : World) : Grows w w.drew := ⟨(Below.refl _ w).drew⟩
theorem Grows.trans {a b c : World} (h : Grows a b) (k : Grows b c) : Grows a c := ⟨h.below.trans (k.below.mono h.below.size)⟩
theorem Grows.refl (w : World) : Grows w w := ⟨Below.refl _ w⟩

theorem Grows.others {w w' : World} (hg : Grows w w') : KeepsOthers w w' := ⟨hg.below.size, fun k _ hk _ => (hg.below.block k (heap_lt hk)).trans hk⟩

theorem Grows.turns (hg : Grows w w') (_h : Rel B w0 S0 φ env a w) (new : Option Nat) (hnew : ∀ g, new = some g → w.heap.size ≤ g) :
  Turns w (Imm B S0 φ env.objs.length) φ env.objs.length w' (Imm B S0 (φnew φ env.objs.length new) (env.objs.length + 1)) (φnew φ env.objs.length new) (env.objs.length + 1) (fun _ => False) where
 keeps b o _ hb hc := by
  have hlt := cell_lt hc
  refine ⟨(hg.below.cell (p := ⟨b, o, none⟩) hlt).trans hc, hb.1, fun i hi => ?_⟩
  by_cases e : i = env.objs.length
  ·
   subst e
   rw [w6]
   intro e; have := hnew b e; omega
  · rw [G3 _ _ (by omega)]; exact hb.2 i (by omega)
 oth := hg.others
 le := by omega
 own i hi _ := ⟨G3 _ _ hi, fun g _ cur e hc => ⟨cur, (hg.below.block g (heap_lt hc)).trans hc, rfl⟩⟩

theorem Grows.turns0 (hg : Grows w w') (_h : Rel B w0 S0 φ env a w) :
  Turns w (Imm B S0 φ env.objs.length) φ env.objs.length w' (Imm B S0 φ env.objs.length) φ env.objs.length (fun _ => False) where
 keeps b o _ hb hc := ⟨(hg.below.cell (p := ⟨b, o, none⟩) (cell_lt hc)).trans hc, hb⟩
 oth := hg.others
 le := Nat.le_refl _
 own _ _ _ := ⟨rfl, fun g _ cur _ hc => ⟨cur, (hg.below.block g (heap_lt hc)).trans hc, rfl⟩⟩

theorem Rel.grow0 (h : Rel B w0 S0 φ env a w) (hg : Grows w w') : Rel B w0 S0 φ env a w' := by
 have ht := hg.turns0 h
 exact h.turn (objs' := env.objs) (hg.below.mono h.baseW) ht
  (fun i ob hi => (h.objs i ob hi).mono ht rfl fun g hgi => hg.below.block g (h.live_lt ((List.getElem?_eq_some_iff.1 hi).1) hgi)) h.low h.inj

theorem Rel.grow (h : Rel B w0 S0 φ env a w) (hg : Grows w w') (g : Nat) (hnew : w.heap.size ≤ g) (ob : Ob) (cur : Array Value) (vals rest : List Value)
  (hh : w'.heap[g]? = some (.cells cur ob.e (0, 0))) (hc : cur.toList = vals ++ rest) (hv : RepVs w (Imm B S0 φ env.objs.length) φ env.objs.length ob.cells vals) :
  Rel B w0 S0 (φnew φ env.objs.length (some g)) { env with objs := env.objs ++ [ob] } a w' := by
 have ht := hg.turns h (some g) (fun g' e => by cases e; exact hnew)
 have hl : (env.objs ++ [ob]).length = env.objs.length + 1 := by simp
 refine h.turn (objs' := env.objs ++ [ob]) (hg.below.mono h.baseW) (by rw [hl]; exact ht) ?_ ?_ ?_
 ·
  intro i ob' hi
  rw [hl]
  have hi' := (List.getElem?_eq_some_iff.1 hi).1
  rw [hl] at hi'
  by_cases e : i = env.objs.length
  ·
   subst e
   rw [List.getElem?_append_right (Nat.le_refl _)] at hi
   simp at hi
   subst hi
   exact .inr ⟨g, cur, vals, rest, w6 _ _ _, hh, hc, RepVs.mono ht _ _ hv⟩
  ·
   rw [List.getElem?_append_left (by omega)] at hi
   exact (h.objs i ob' hi).mono ht (G3 _ _ (by omega)) fun g' hg' => hg.below.block g' (h.live_lt (by omega) hg')
 ·
  intro i g' hi hgi
  rw [hl] at hi
  by_cases e : i = env.objs.length
  · subst e; rw [w6] at hgi; cases hgi; exact Nat.le_trans h.baseW hnew
  · rw [G3 _ _ (by omega)] at hgi; exact h.low i g' (by omega) hgi
 ·
  intro i j g' hi hj hgi hgj
  rw [hl] at hi hj
  by_cases e : i = env.objs.length <;> by_cases e' : j = env.objs.length
  · omega
  ·
   subst e; rw [w6] at hgi; cases hgi
   rw [G3 _ _ (by omega)] at hgj
   have := h.live_lt (by omega) hgj; omega
  ·
   subst e'; rw [w6] at hgj; cases hgj
   rw [G3 _ _ (by omega)] at hgi
   have := h.live_lt (by omega) hgi; omega
  ·
   rw [G3 _ _ (by omega)] at hgi hgj
   exact h.inj i j g' (by omega) (by omega) hgi hgj

theorem Rel.virt (h : Rel B w0 S0 φ env a w) (e : TypeId) : Rel B w0 S0 (φnew φ env.objs.length none) { env with objs := env.objs ++ [⟨[], e⟩] } a w := by
 have ht := (Grows.refl w).turns h none (fun g' e => by cases e)
 have hl : (env.objs ++ [(⟨[], e⟩ : Ob)]).length = env.objs.length + 1 := by simp
 refine h.turn (objs' := env.objs ++ [⟨[], e⟩]) (Below.refl _ _) (by rw [hl]; exact ht) ?_ ?_ ?_
 ·
  intro i ob' hi
  rw [hl]
  have hi' := (List.getElem?_eq_some_iff.1 hi).1
  rw [hl] at hi'
  by_cases e : i = env.objs.length
  ·
   subst e
   rw [List.getElem?_append_right (Nat.le_refl _)] at hi
   simp at hi
   subst hi
   exact .inl ⟨w6 _ _ _, rfl⟩
  ·
   rw [List.getElem?_append_left (by omega)] at hi
   exact (h.objs i ob' hi).mono ht (G3 _ _ (by omega)) fun g' hg' => rfl
 ·
  intro i g' hi hgi
  rw [hl] at hi
  by_cases e : i = env.objs.length
  · subst e; rw [w6] at hgi; cases hgi
  · rw [G3 _ _ (by omega)] at hgi; exact h.low i g' (by omega) hgi
 ·
  intro i j g' hi hj hgi hgj
  rw [hl] at hi hj
  by_cases e : i = env.objs.length <;> by_cases e' : j = env.objs.length
  · omega
  · subst e; rw [w6] at hgi; cases hgi
  · subst e'; rw [w6] at hgj; cases hgj
  ·
   rw [G3 _ _ (by omega)] at hgi hgj
   exact h.inj i j g' (by omega) (by omega) hgi hgj

theorem setMany_eq {α : Type} (l : List α) (k : Nat) (us : List α) (h : k + us.length ≤ l.length) : setMany l k us = l.take k ++ us ++ l.drop (k + us.length) := by
 induction us generalizing l k with
 | nil => simp [setMany]
 | cons u us ih =>
  simp only [setMany]
  simp only [List.length_cons] at h
  rw [ih (l.set k u) (k + 1) (by simp; omega)]
  have hk : k < l.length := by omega
  rw [List.take_succ_eq_append_getElem (by simpa using hk)]
  simp only [List.take_set_of_le (Nat.le_refl k), List.getElem_set_self, List.append_assoc, List.cons_append, List.nil_append, List.length_cons]
  rw [List.drop_set_of_lt (by omega)]
  congr 4
  omega

theorem setMany_length {α : Type} (l : List α) (k : Nat) (us : List α) : (setMany l k us).length = l.length := by
 induction us generalizing l k with
 | nil => rfl
 | cons u us ih => simp [setMany, ih]

theorem RepVs.setMany {S : Nat → Prop} {m : Nat} {ds es : List V} {vs us : List Value} (h : RepVs w S φ m ds vs) (k : Nat) (h2 : RepVs w S φ m es us) : RepVs w S φ m (setMany ds k es) (PW.setMany vs k us) := by
 induction es generalizing ds vs us k with
 | nil => simp only [RepVs] at h2; subst h2; exact h
 | cons e es ih =>
  simp only [RepVs] at h2
  obtain ⟨v, vs', rfl, hr, ht⟩ := h2
  exact ih (h.set k hr) (k + 1) ht

theorem cell_setRow {w : World} {g k o : Nat} (cs : Array Value) (h : k ≠ g) : (w.setRow g cs).cell? ⟨k, o, none⟩ = w.cell? ⟨k, o, none⟩ := by
 simp [World.cell?, setRow_other w g k cs h]

theorem below_setRow {B : Nat} {w : World} {g : Nat} (cs : Array Value) (h : B ≤ g) : Below B w (w.setRow g cs) :=
 ⟨rfl, rfl, rfl, by simp, fun k hk => setRow_other w g k cs (by omega)⟩

theorem others_setRow {w : World} {g : Nat} {cur : Array Value} {e : TypeId} {fr : Nat × Nat} (cs : Array Value) (hh : w.heap[g]? = some (.cells cur e fr)) : KeepsOthers w (w.setRow g cs) :=
 ⟨by simp, fun k o hk hc => by
  by_cases e : k = g
  · subst e; rw [hh] at hk; cases hk; simp [Obj.isCells] at hc
  · exact (setRow_other w g k _ e).trans hk⟩

theorem Rel.store (h : Rel B w0 S0 φ env a w) {i g off : Nat} {ob : Ob} {cur : Array Value} {vals rest : List Value} (hi : env.objs[i]? = some ob) (hg : φ i = some g) (hh : w.heap[g]? = some (.cells cur ob.e (0, 0)))
  (hc : cur.toList = vals ++ rest) (hv : RepVs w (Imm B S0 φ env.objs.length) φ env.objs.length ob.cells vals) {es : List V} {us : List Value} (he : RepVs w (Imm B S0 φ env.objs.length) φ env.objs.length es us)
  (hle : off + es.length ≤ ob.cells.length) :
  Rel B w0 S0 φ { env with objs := env.objs.set i { ob with cells := PW.setMany ob.cells off es } } a (w.setRow g (cur.toList.take off ++ us ++ cur.toList.drop (off + us.length)).toArray) := by
 have hil : i < env.objs.length := (List.getElem?_eq_some_iff.1 hi).1
 have hlen : (env.objs.set i { ob with cells := PW.setMany ob.cells off es }).length = env.objs.length := by simp
 have hvl := RepVs.length _ _ hv
 have hul := RepVs.length _ _ he
 have hnew : (cur.toList.take off ++ us ++ cur.toList.drop (off + us.length)) = PW.setMany vals off us ++ rest := by
  rw [setMany_eq vals off us (by omega), hc, List.take_append_of_le_length (by omega), List.drop_append_of_le_length (by omega)]
  simp
 have hsz : cur.size = (cur.toList.take off ++ us ++ cur.toList.drop (off + us.length)).toArray.size := by
  rw [hnew]; simp [setMany_length]
  have := congrArg List.length hc
  simpa using this
 have ht : Turns w (Imm B S0 φ env.objs.length) φ env.objs.length (w.setRow g (cur.toList.take off ++ us ++ cur.toList.drop (off + us.length)).toArray) (Imm B S0 φ env.objs.length) φ env.objs.length (fun _ => False) := by
  refine ⟨fun b o x hb hx => ⟨?_, hb⟩, others_setRow _ hh, Nat.le_refl _, fun j hj _ => ⟨rfl, fun g' hg' cur' e' hh' => ?_⟩⟩
  · rw [cell_setRow _ (fun e => hb.2 i hil (by rw [e, hg]))]; exact hx
  ·
   by_cases e : g' = g
   ·
    subst e
    rw [hh] at hh'; cases hh'
    exact ⟨_, setRow_heap w g' cur _ _ _ hh, hsz⟩
   · exact ⟨cur', (setRow_other w g g' _ e).trans hh', rfl⟩
 refine h.turn (objs' := env.objs.set i { ob with cells := PW.setMany ob.cells off es }) (below_setRow _ (h.low i g hil hg)) (by rw [hlen]; exact ht) ?_ (by rw [hlen]; exact h.low) (by rw [hlen]; exact h.inj)
 intro j ob' hj
 rw [hlen]
 by_cases e : i = j
 ·
  subst e
  rw [List.getElem?_set_self hil] at hj
  cases hj
  exact .inr ⟨g, _, PW.setMany vals off us, rest, hg, setRow_heap w g cur _ _ _ hh, by rw [List.toList_toArray, hnew], RepVs.mono ht _ _ (hv.setMany off he)⟩
 ·
  rw [List.getElem?_set_ne e] at hj
  refine (h.objs j ob' hj).mono ht rfl fun g' hg' => setRow_other w g g' _ ?_
  rintro rfl
  exact e (h.inj i j g' hil ((List.getElem?_eq_some_iff.1 hj).1) hg hg')
end
end Go.PW
