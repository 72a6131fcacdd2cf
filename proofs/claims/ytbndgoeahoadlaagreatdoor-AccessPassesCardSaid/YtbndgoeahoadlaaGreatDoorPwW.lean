import Derived.Test.YtbndgoeahoadlaaGreatDoorPwV
set_option linter.all false
namespace Go.PW
open Go.RowKit

structure LoopCtx where
 w : World
 L : Nat
 D : Nat
 fn : FuncId
 ts : Array Value
 ps : Array Tmp
 assign : Code
 body : Code
 pend : Nat → Option Code
def LoopCtx.recd (c : LoopCtx) (j : Nat) : Loop := { state := if j = 0 then .ready else .done, pending := if j = 0 then none else c.pend j, fn := c.fn, tmps := c.ts, params := c.ps, assign := c.assign, body := c.body, defers := c.D }
def LoopCtx.base (c : LoopCtx) (B : Nat) (W : World) : Prop := B ≤ c.L ∧ W.heap[c.D]? = some (.deferred (some [])) ∧ c.D ≠ c.L ∧ c.w.heap.size ≤ c.L ∧ KeepsOthers c.w W
def LoopCtx.th (c : LoopCtx) (j : Nat) (B : Nat) (W : World) : Prop := W.heap[c.L]? = some (.loop (c.recd j)) ∧ c.base B W
def LoopCtx.busy (c : LoopCtx) (B : Nat) (W : World) : Prop := W.heap[c.L]? = some (.loop { c.recd 0 with state := .busy }) ∧ c.base B W
theorem LoopCtx.base_keeps (c : LoopCtx) (B : Nat) (w1 w2 : World) (h : c.base B w1) (ho : KeepsOthers w1 w2) : c.base B w2 := ⟨h.1, ho.same _ _ h.2.1 rfl, h.2.2.1, h.2.2.2.1, h.2.2.2.2.trans ho⟩
theorem LoopCtx.th_keeps (c : LoopCtx) (j B : Nat) (w1 w2 : World) (h : c.th j B w1) (ho : KeepsOthers w1 w2) : c.th j B w2 := ⟨ho.same _ _ h.1 rfl, c.base_keeps _ _ _ h.2 ho⟩
theorem LoopCtx.busy_keeps (c : LoopCtx) (B : Nat) (w1 w2 : World) (h : c.busy B w1) (ho : KeepsOthers w1 w2) : c.busy B w2 := ⟨ho.same _ _ h.1 rfl, c.base_keeps _ _ _ h.2 ho⟩
theorem LoopCtx.base_put (c : LoopCtx) {B : Nat} {W : World} (h : c.base B W) (o : Obj) : c.base B (W.putObj c.L o) :=
 ⟨h.1, (World.putObj_heap_other h.2.2.1).trans h.2.1, h.2.2.1, h.2.2.2.1, ⟨by simpa using h.2.2.2.2.size, fun k o' hk hc => by
  have : k ≠ c.L := by have := (Array.getElem?_eq_some_iff.1 hk).1; have := h.2.2.2.1; omega
  exact (World.putObj_heap_other this).trans (h.2.2.2.2.same k o' hk hc)⟩⟩

def jumps (pend : Nat → Option Code) (e : Exit) (j : Nat) : Prop :=
 (e = .normal ∧ j = 0) ∨ (j ≠ 0 ∧ ((e = .ret ∧ pend j = some .ret) ∨ ∃ id, e = .exit id ∧ pend j = some (.exit id)))

abbrev Gh := List (V × Value × Nat)
theorem sameCells_putL {w : World} {L : Nat} {r : Loop} (o' : Obj) (h : w.heap[L]? = some (.loop r)) : SameCells w (w.putObj L o') := sameCells_putObj o' h rfl

section
variable {B : Nat} {w0 : World} {S0 : Nat → Prop} {φ : Nat → Option Nat} {env : Env} {a : Act} {w : World}
theorem Rel.turnL {L : Nat} {r : Loop} (o' : Obj) (h : Rel B w0 S0 φ env a w) (hL : w.heap[L]? = some (.loop r)) (hB : B ≤ L) {p' : Nat → World → Prop} (h1 : p' B (w.putObj L o')) (h2 : ∀ w1 w2, p' B w1 → KeepsOthers w1 w2 → p' B w2) :
  Rel B w0 S0 φ { env with th := (p', env.th.2) } a (w.putObj L o') := by
 have hs := sameCells_putL o' hL
 obtain ⟨g0, ⟨Ds, g1, g2, g3⟩, _, _⟩ := h.nodef
 refine ⟨?_, h.base, ⟨g0, ⟨Ds, g1, g2, fun D hD => ⟨(g3 D hD).1, ?_⟩⟩, h1, h2⟩, h.size, fun t => RepV.same hs _ _ (h.tmps t), fun i ob hi => ?_, h.low, h.inj, h.ghost.1, fun x hx => ⟨(h.ghost.2 x hx).1, RepV.same hs _ _ (h.ghost.2 x hx).2⟩⟩
 · exact h.below.trans ((Below.refl B w).grown (grownBy_putObj' w L _) (by have := (Array.getElem?_eq_some_iff.1 hL).1; omega) (fun k e => by cases e; exact hB))
 ·
  have : D ≠ L := by rintro rfl; rw [(g3 D hD).2] at hL; cases hL
  exact (World.putObj_heap_other this).trans (g3 D hD).2
 ·
  rcases h.objs i ob hi with ⟨g1, g2⟩ | ⟨g, cur, vals, rest, g1, g2, g3, g4⟩
  · exact .inl ⟨g1, g2⟩
  · exact .inr ⟨g, cur, vals, rest, g1, hs _ _ _ _ g2, g3, RepVs.same hs _ _ g4⟩

theorem liftV {S : Nat → Prop} {m m' : Nat} (hm : m ≤ m') {d : V} {v : Value} (h : RepV w S φ m d v) : RepV w S φ m' d v :=
 RepV.mono (w := w) (w' := w) ⟨fun b o x hb hc => ⟨hc, hb⟩, KeepsOthers.refl _, hm, fun i hi _ => ⟨rfl, fun g hg cur e hc => ⟨cur, hc, rfl⟩⟩⟩ d v h

theorem wpIn_any {P : Program} {ro : Option Nat} {n m : Nat} {c : Code} {Q : Exit → Act → World → Prop} (h : c.wpIn (Fd ro) n P Q a w) : c.wpIn (Fd ro) m P Q a w :=
 fun b k cs h1 h2 _ => h b k cs h1 h2 (room_Fd ro _)
end

def toG (tmps : List (Nat × V)) (us : Array Value) (m : Nat) : Gh := tmps.map fun x => (get tmps x.1, us.getD x.1 undef, m)
theorem toG_rep {B : Nat} {w0 : World} {S0 : Nat → Prop} {φ : Nat → Option Nat} {env : Env} {a : Act} {w : World} (h : Rel B w0 S0 φ env a w) :
  ∀ x ∈ toG env.tmps a.tmps env.objs.length, x.2.2 ≤ env.objs.length ∧ RepV w (Imm B S0 φ env.objs.length) φ x.2.2 x.1 x.2.1 := by
 intro x hx
 obtain ⟨y, _, rfl⟩ := List.mem_map.1 hx
 exact ⟨Nat.le_refl _, h.tmps y.1⟩

theorem slotsBack {B : Nat} {w0 : World} {S0 : Nat → Prop} {φ : Nat → Option Nat} {env2 : Env} {a2 : Act} {w : World} (h : Rel B w0 S0 φ env2 a2 w) {tmps : List (Nat × V)} {us : Array Value} {m : Nat} {G : Gh} (hg : env2.gs.2 = toG tmps us m ++ G) (t : Nat) :
  RepV w (Imm B S0 φ env2.objs.length) φ env2.objs.length (get tmps t) (us.getD t undef) := by
 by_cases ht : ∃ x ∈ tmps, x.1 = t
 ·
  obtain ⟨x, hx, rfl⟩ := ht
  have := h.ghost.2 (get tmps x.1, us.getD x.1 undef, m) (by rw [hg]; exact List.mem_append_left _ (List.mem_map.2 ⟨x, hx, rfl⟩))
  exact liftV (Nat.le_trans this.1 h.ghost.1) this.2
 · rw [get_absent _ _ (fun x hx e => ht ⟨x, hx, e⟩)]; simp [RepV]
def Env.behind (env : Env) (objs : List Ob) (th : (Nat → World → Prop) × Bool) : Env := { env with objs, th }

section
variable {P : Program} {Q : Exit → Env → Prop} {env : Env}
theorem Rel.puts {B : Nat} {w0 : World} {S0 : Nat → Prop} {φ : Nat → Option Nat} {w : World} : ∀ (l : List Nat) (xs : List V) (vs : List Value) (env : Env) (tm : Array Value), l.length = xs.length → Rel B w0 S0 φ env { tmps := tm, defers := [] } w → (∀ p ∈ l, p < env.nt) →
  RepVs w (Imm B S0 φ env.objs.length) φ env.objs.length xs vs → Rel B w0 S0 φ { env with tmps := putAll env.tmps (l.zip xs) } { tmps := (l.zip vs).foldl (fun t x => t.setIfInBounds x.1 x.2) tm, defers := [] } w
 | [], _, _, env, tm, _, h, _, _ => by simpa [putAll] using h
 | p :: l, [], _, _, _, hl, _, _, _ => by simp at hl
 | p :: l, x :: xs, vs, env, tm, hl, h, hp, hv => by
  simp only [RepVs] at hv
  obtain ⟨v, vs', rfl, h1, h2⟩ := hv
  have h3 := h.put p (hp p (by simp)) x v h1
  exact Rel.puts l xs vs' (env.put p x) (tm.setIfInBounds p v) (by simpa using hl) h3 (fun q hq => hp q (by simp [hq])) h2

theorem PW.virtC {ro : Option Nat} {c : Code} (i k : Nat) (e : TypeId) (sz : Nat) (ob : Ob) (hob : env.objs[i]? = some ob) (hk : ob.cells[k]? = some (.d (.val (.slice none 0 0))))
  (h : PW ro P c Q { env with objs := (env.objs.set i { ob with cells := ob.cells.set k (.own env.objs.length 0 0 sz) }) ++ [⟨[], e⟩] }) : PW ro P c Q env := by
 intro B w0 S0 φ a w hr
 have hv := hr.virt e
 have hil : i < env.objs.length := (List.getElem?_eq_some_iff.1 hob).1
 have hlen : ((env.objs.set i { ob with cells := ob.cells.set k (.own env.objs.length 0 0 sz) }) ++ [(⟨[], e⟩ : Ob)]).length = (env.objs ++ [(⟨[], e⟩ : Ob)]).length := by simp
 refine h B w0 S0 (φnew φ env.objs.length none) a w ⟨hv.below, hv.base, hv.nodef, hv.size, fun t => ?_, fun q oq hq => ?_, ?_, ?_, ?_⟩
 · rw [hlen]; exact hv.tmps t
 ·
  rw [hlen]
  by_cases hqi : q = i
  ·
   subst hqi
   rw [List.getElem?_append_left (by simpa using hil), List.getElem?_set_self hil] at hq
   cases hq
   rcases hv.objs q ob (by rw [List.getElem?_append_left hil]; exact hob) with ⟨h1, h2⟩ | ⟨g, cur, vals, rest, h1, h2, h3, h4⟩
   · rw [h2] at hk; simp at hk
   ·
    have hkl : k < ob.cells.length := (List.getElem?_eq_some_iff.1 hk).1
    obtain ⟨v, hv1, hv2⟩ := RepVs.get _ _ h4 k hkl
    have hv3 : v = .slice none 0 0 := by
     rw [show ob.cells.getD k .dead = .d (.val (.slice none 0 0)) by rw [List.getD_eq_getElem?_getD, hk]; rfl] at hv2
     simpa [RepV, RepD] using hv2
    have hset : vals = vals.set k (.slice none 0 0) := by
     refine (List.ext_getElem? fun n => ?_)
     rw [List.getElem?_set]
     split
     ·
      rename_i e; subst e; split
      · rw [hv1, hv3]
      · rename_i h; exact absurd (List.getElem?_eq_some_iff.1 hv1).1 h
     · rfl
    refine .inr ⟨g, cur, vals, rest, h1, h2, h3, ?_⟩
    rw [hset]
    refine h4.set k ?_
    simp only [RepV]
    exact ⟨by simp, .inl ⟨none, by simp⟩⟩
  ·
   refine hv.objs q oq ?_
   by_cases hql : q < env.objs.length
   ·
    rw [List.getElem?_append_left (by simpa using hql), List.getElem?_set_ne (Ne.symm hqi)] at hq
    rw [List.getElem?_append_left hql]; exact hq
   ·
    rw [List.getElem?_append_right (by simpa using hql)] at hq
    rw [List.getElem?_append_right (by simpa using hql)]
    simpa using hq
 · rw [hlen]; exact hv.low
 · rw [hlen]; exact hv.inj
 · rw [hlen]; exact hv.ghost
end
end Go.PW
