/-
 A loop over a function, walked within the function that it ranges over: the caller's slots are kept as ghosts, each round is walked where the iterator calls yield. For every program.
-/
import Derived.Test.YtklejiafioalnaaPwV
set_option linter.all false
namespace Go.PW
open Go.RowKit

structure LoopCtx where
 w : World
 L : Nat
 D : Nat
 fn : FuncId
 ts : Array Value
 ps : Array Tmp
 assign : Code
 body : Code
 pend : Nat → Option Code
def LoopCtx.recd (c : LoopCtx) (j : Nat) : Loop := { state := if j = 0 then .ready else .done, pending := if j = 0 then none else c.pend j, fn := c.fn, tmps := c.ts, params := c.ps, assign := c.assign, body := c.body, defers := c.D }
def LoopCtx.base (c : LoopCtx) (B : Nat) (W : World) : Prop := B ≤ c.L ∧ W.heap[c.D]? = some (.deferred (some [])) ∧ c.D ≠ c.L ∧ c.w.heap.size ≤ c.L ∧ KeepsOthers c.w W
def LoopCtx.th (c : LoopCtx) (j : Nat) (B : Nat) (W : World) : Prop := W.heap[c.L]? = some (.loop (c.recd j)) ∧ c.base B W
def LoopCtx.busy (c : LoopCtx) (B : Nat) (W : World) : Prop := W.heap[c.L]? = some (.loop { c.recd 0 with state := .busy }) ∧ c.base B W
theorem LoopCtx.base_keeps (c : LoopCtx) (B : Nat) (w1 w2 : World) (h : c.base B w1) (ho : KeepsOthers w1 w2) : c.base B w2 := ⟨h.1, ho.same _ _ h.2.1 rfl, h.2.2.1, h.2.2.2.1, h.2.2.2.2.trans ho⟩
theorem LoopCtx.th_keeps (c : LoopCtx) (j B : Nat) (w1 w2 : World) (h : c.th j B w1) (ho : KeepsOthers w1 w2) : c.th j B w2 := ⟨ho.same _ _ h.1 rfl, c.base_keeps _ _ _ h.2 ho⟩
theorem LoopCtx.busy_keeps (c : LoopCtx) (B : Nat) (w1 w2 : World) (h : c.busy B w1) (ho : KeepsOthers w1 w2) : c.busy B w2 := ⟨ho.same _ _ h.1 rfl, c.base_keeps _ _ _ h.2 ho⟩
theorem LoopCtx.base_put (c : LoopCtx) {B : Nat} {W : World} (h : c.base B W) (o : Obj) : c.base B (W.putObj c.L o) :=
 ⟨h.1, (World.putObj_heap_other h.2.2.1).trans h.2.1, h.2.2.1, h.2.2.2.1, ⟨by simpa using h.2.2.2.2.size, fun k o' hk hc => by
  have : k ≠ c.L := by have := (Array.getElem?_eq_some_iff.1 hk).1; have := h.2.2.2.1; omega
  exact (World.putObj_heap_other this).trans (h.2.2.2.2.same k o' hk hc)⟩⟩

def jumps (pend : Nat → Option Code) (e : Exit) (j : Nat) : Prop :=
 (e = .normal ∧ j = 0) ∨ (j ≠ 0 ∧ ((e = .ret ∧ pend j = some .ret) ∨ ∃ id, e = .exit id ∧ pend j = some (.exit id)))

abbrev Gh := List (V × Value × Nat)
theorem sameCells_putL {w : World} {L : Nat} {r : Loop} (o' : Obj) (h : w.heap[L]? = some (.loop r)) : SameCells w (w.putObj L o') := sameCells_putObj o' h rfl

section
variable {B : Nat} {w0 : World} {S0 : Nat → Prop} {φ : Nat → Option Nat} {env : Env} {a : Act} {w : World}
theorem Rel.turnL {L : Nat} {r : Loop} (o' : Obj) (h : Rel B w0 S0 φ env a w) (hL : w.heap[L]? = some (.loop r)) (hB : B ≤ L) {p' : Nat → World → Prop} (h1 : p' B (w.putObj L o')) (h2 : ∀ w1 w2, p' B w1 → KeepsOthers w1 w2 → p' B w2) :
  Rel B w0 S0 φ { env with th := (p', env.th.2) } a (w.putObj L o') := by
 have hs := sameCells_putL o' hL
 obtain ⟨g0, ⟨Ds, g1, g2, g3⟩, _, _⟩ := h.nodef
 refine ⟨?_, h.base, ⟨g0, ⟨Ds, g1, g2, fun D hD => ⟨(g3 D hD).1, ?_⟩⟩, h1, h2⟩, h.size, fun t => RepV.same hs _ _ (h.tmps t), fun i ob hi => ?_, h.low, h.inj, h.ghost.1, fun x hx => ⟨(h.ghost.2 x hx).1, RepV.same hs _ _ (h.ghost.2 x hx).2⟩⟩
 · exact h.below.trans ((Below.refl B w).grown (grownBy_putObj' w L _) (by have := (Array.getElem?_eq_some_iff.1 hL).1; omega) (fun k e => by cases e; exact hB))
 ·
  have : D ≠ L := by rintro rfl; rw [(g3 D hD).2] at hL; cases hL
  exact (World.putObj_heap_other this).trans (g3 D hD).2
 ·
  rcases h.objs i ob hi with ⟨g1, g2⟩ | ⟨g, cur, vals, rest, g1, g2, g3, g4⟩
  · exact .inl ⟨g1, g2⟩
  · exact .inr ⟨g, cur, vals, rest, g1, hs _ _ _ _ g2, g3, RepVs.same hs _ _ g4⟩

theorem liftV {S : Nat → Prop} {m m' : Nat} (hm : m ≤ m') {d : V} {v : Value} (h : RepV w S φ m d v) : RepV w S φ m' d v :=
 RepV.mono (w := w) (w' := w) ⟨fun b o x hb hc => ⟨hc, hb⟩, KeepsOthers.refl _, hm, fun i hi _ => ⟨rfl, fun g hg cur e hc => ⟨cur, hc, rfl⟩⟩⟩ d v h

theorem wpIn_any {P : Program} {ro : Option Nat} {n m : Nat} {c : Code} {Q : Exit → Act → World → Prop} (h : c.wpIn (Fd ro) n P Q a w) : c.wpIn (Fd ro) m P Q a w :=
 fun b k cs h1 h2 _ => h b k cs h1 h2 (room_Fd ro _)
end

def toG (tmps : List (Nat × V)) (us : Array Value) (m : Nat) : Gh := tmps.map fun x => (get tmps x.1, us.getD x.1 undef, m)
theorem toG_rep {B : Nat} {w0 : World} {S0 : Nat → Prop} {φ : Nat → Option Nat} {env : Env} {a : Act} {w : World} (h : Rel B w0 S0 φ env a w) :
  ∀ x ∈ toG env.tmps a.tmps env.objs.length, x.2.2 ≤ env.objs.length ∧ RepV w (Imm B S0 φ env.objs.length) φ x.2.2 x.1 x.2.1 := by
 intro x hx
 obtain ⟨y, _, rfl⟩ := List.mem_map.1 hx
 exact ⟨Nat.le_refl _, h.tmps y.1⟩

theorem slotsBack {B : Nat} {w0 : World} {S0 : Nat → Prop} {φ : Nat → Option Nat} {env2 : Env} {a2 : Act} {w : World} (h : Rel B w0 S0 φ env2 a2 w) {tmps : List (Nat × V)} {us : Array Value} {m : Nat} {G : Gh} (hg : env2.gs.2 = toG tmps us m ++ G) (t : Nat) :
  RepV w (Imm B S0 φ env2.objs.length) φ env2.objs.length (get tmps t) (us.getD t undef) := by
 by_cases ht : ∃ x ∈ tmps, x.1 = t
 ·
  obtain ⟨x, hx, rfl⟩ := ht
  have := h.ghost.2 (get tmps x.1, us.getD x.1 undef, m) (by rw [hg]; exact List.mem_append_left _ (List.mem_map.2 ⟨x, hx, rfl⟩))
  exact liftV (Nat.le_trans this.1 h.ghost.1) this.2
 · rw [get_absent _ _ (fun x hx e => ht ⟨x, hx, e⟩)]; simp [RepV]
def Env.behind (env : Env) (objs : List Ob) (th : (Nat → World → Prop) × Bool) : Env := { env with objs, th }

section
variable {P : Program} {Q : Exit → Env → Prop} {env : Env}
theorem Rel.puts {B : Nat} {w0 : World} {S0 : Nat → Prop} {φ : Nat → Option Nat} {w : World} : ∀ (l : List Nat) (xs : List V) (vs : List Value) (env : Env) (tm : Array Value), l.length = xs.length → Rel B w0 S0 φ env { tmps := tm, defers := [] } w → (∀ p ∈ l, p < env.nt) →
  RepVs w (Imm B S0 φ env.objs.length) φ env.objs.length xs vs → Rel B w0 S0 φ { env with tmps := putAll env.tmps (l.zip xs) } { tmps := (l.zip vs).foldl (fun t x => t.setIfInBounds x.1 x.2) tm, defers := [] } w
 | [], _, _, env, tm, _, h, _, _ => by simpa [putAll] using h
 | p :: l, [], _, _, _, hl, _, _, _ => by simp at hl
 | p :: l, x :: xs, vs, env, tm, hl, h, hp, hv => by
  simp only [RepVs] at hv
  obtain ⟨v, vs', rfl, h1, h2⟩ := hv
  have h3 := h.put p (hp p (by simp)) x v h1
  exact Rel.puts l xs vs' (env.put p x) (tm.setIfInBounds p v) (by simpa using hl) h3 (fun q hq => hp q (by simp [hq])) h2

theorem OW.yield {all rest : List Oper} {K : Env → Prop} {o : Oper} {fo : Operand} {xs : Array Operand} {ts : Array TypeId} (c : LoopCtx) (ntc : Nat) (ct : List (Nat × V)) (m0 : Nat) (G0 : Gh)
  (ho : o.op = .call { callee := .value fo, args := xs, argTypes := ts }) (hg : o.guard = none) (hf : ev env fo = .d (.val (.func (.yield c.L) #[] #[]))) (hth : env.th = (c.th 0, false)) (hnt : ntc ≤ c.ts.size) (hps : xs.size = c.ps.size) (hpl : ∀ p ∈ c.ps.toList, p < ntc)
  (hgs : env.gs.2 = toG ct c.ts m0 ++ G0) (hd : okDst env o.dst)
  (h : ∀ us : Array Value, PW (some c.L) P c.assign (fun e env1 => e = .normal ∧ env1.th = (c.th 0, false) ∧
    PW (some c.L) P c.body (fun e env2 => ∃ j, jumps c.pend e j ∧ env2.th = (c.busy, false) ∧ env2.gs = (env.objs.length, toG env.tmps us env.objs.length ++ env.gs.2) ∧
      OW none P all rest (putO (env.behind env2.objs (c.th j, false)) o.dst (vbool (j == 0))) K) { env1 with th := (c.busy, false) })
    ⟨ntc, putAll ct (c.ps.toList.zip (xs.toList.map (ev env))), env.objs, (env.objs.length, toG env.tmps us env.objs.length ++ env.gs.2), (c.th 0, false)⟩) :
  OW none P all (o :: rest) env K := by
 intro B w0 S0 φ a w Q hr hK
 have hm := hr.nodef
 rw [hth] at hm
 obtain ⟨hL, hbase⟩ := hm.2.2.1
 have hBL := hbase.1
 have hev := hr.ev fo
 rw [hf] at hev
 simp only [RepV, RepD] at hev
 have hevs := hr.evs xs.toList
 have hsz : (xs.map a.eval).size = (c.recd 0).params.size := by simpa [LoopCtx.recd] using hps
 have hex : (execOp a.eval o).run P w = .ok (.round c.L c.fn ((c.ps.zip (xs.map a.eval)).foldl (fun tmps (t, a) => tmps.setIfInBounds t a) c.ts) c.assign c.body) w := by
  have := run_yield (P := P) hL hsz
  simp only [LoopCtx.recd] at this
  simp [execOp, ho, resolve, Deferred.ofValue, hev, invoke, this]
 have hnd : ∀ c', o.op ≠ .defer c' := by rw [ho]; intro c' e; cases e
 unfold wpListIn
 rw [if_pos (wanted_none hg _)]
 refine ⟨fun _ _ => trivial, ?_⟩
 rw [Oper.semAt_eq _ _ _ hnd, hex, Oper.uponIn_round]
 refine ⟨fun _ => Nat.le_refl _, ?_⟩
 refine (roundIn_of_wpIn (F := Fd none) (R := fun e w'' => ∃ b, e = .returned (.bool b) ∧ wpListIn (Fd none) 1 P all.toArray Q rest (a.put o.dst (.bool b)) w'') trivial ?_).mono ?_
 ·
  have hfold : (c.ps.zip (xs.map a.eval)).foldl (fun tmps (t, a) => tmps.setIfInBounds t a) c.ts = (c.ps.toList.zip (xs.toList.map a.eval)).foldl (fun t x => t.setIfInBounds x.1 x.2) c.ts := by
   rw [← Array.foldl_toList, Array.toList_zip, Array.toList_map]
  rw [hfold]
  have hdl : a.defers = [] := hm.1 rfl
  have hr0 : Rel B w0 S0 φ ⟨ntc, ct, env.objs, (env.objs.length, toG env.tmps a.tmps env.objs.length ++ env.gs.2), (c.th 0, false)⟩ { tmps := c.ts, defers := [] } w := by
   refine ⟨hr.below, hr.base, ⟨fun _ => rfl, ⟨[], rfl, List.nodup_nil, fun D hD => by simp at hD⟩, hm.2.2⟩, hnt, fun t => slotsBack hr hgs t, hr.objs, hr.low, hr.inj, Nat.le_refl _, fun x hx => ?_⟩
   rcases List.mem_append.1 hx with hx | hx
   · exact toG_rep hr x hx
   · exact ⟨Nat.le_trans (hr.ghost.2 x hx).1 hr.ghost.1, (hr.ghost.2 x hx).2⟩
  have hr1 := Rel.puts c.ps.toList (xs.toList.map (PW.ev env)) (xs.toList.map a.eval) _ c.ts (by simpa using hps.symm) hr0 hpl hevs
  refine wpIn_mono (wpIn_any (ro := some c.L) (h a.tmps B w0 S0 φ _ w hr1)) ?_
  rintro e a1 w1 ⟨env1, φ1, ⟨rfl, hth1, hbody⟩, hr1'⟩
  have hm1 := hr1'.nodef
  rw [hth1] at hm1
  obtain ⟨hL1, hb1⟩ := hm1.2.2.1
  refine ⟨_, run_beginRound hL1 (by simp [LoopCtx.recd]), ?_⟩
  have hr2 := hr1'.turnL (.loop { c.recd 0 with state := .busy }) hL1 hBL (p' := c.busy) ⟨World.putObj_heap_same (heap_lt hL1), c.base_put hb1 _⟩ (c.busy_keeps B)
  rw [show env1.th.2 = false by rw [hth1]] at hr2
  refine wpIn_mono (wpIn_any (ro := some c.L) (hbody B w0 S0 φ1 a1 _ hr2)) ?_
  rintro e a2 w3 ⟨env2, φ2, ⟨j, hj, hth2, hgs2, hOW⟩, hr3⟩
  have hm3 := hr3.nodef
  rw [hth2] at hm3
  obtain ⟨hL3, hb3⟩ := hm3.2.2.1
  have fin : ∀ (jump : Option Code) (hjp : c.recd j = { { c.recd 0 with state := .busy } with state := if jump.isNone then .ready else .done, pending := jump }) (hjb : jump.isNone = (j == 0)),
    ∃ v w', (Instr.endRound c.L jump).run P w3 = .ok v w' ∧ ∃ b, Ending.returned v = .returned (.bool b) ∧ wpListIn (Fd none) 1 P all.toArray Q rest (a.put o.dst (.bool b)) w' := by
   intro jump hjp hjb
   refine ⟨_, _, run_endRound jump hL3, _, rfl, ?_⟩
   rw [← hjp, hjb]
   have hr4 := hr3.turnL (.loop (c.recd j)) hL3 hBL (p' := c.th j) ⟨World.putObj_heap_same (heap_lt hL3), c.base_put hb3 _⟩ (c.th_keeps j B)
   have hr5 : Rel B w0 S0 φ2 (env.behind env2.objs (c.th j, false)) a (w3.putObj c.L (.loop (c.recd j))) := by
    refine ⟨hr4.below, hr4.base, ⟨fun _ => hdl, ⟨[], by simpa using hdl, List.nodup_nil, fun D hD => by simp at hD⟩, hr4.nodef.2.2⟩, hr.size, fun t => ?_, hr4.objs, hr4.low, hr4.inj, ?_, fun x hx => ?_⟩
    · exact slotsBack hr4 (tmps := env.tmps) (us := a.tmps) (m := env.objs.length) (G := env.gs.2) (by simp only [hgs2]) t
    ·
     have h5 := hr4.ghost.1
     simp only [hgs2] at h5
     exact Nat.le_trans hr.ghost.1 h5
    · exact ⟨(hr.ghost.2 x hx).1, (hr4.ghost.2 x (by simp only [hgs2]; exact List.mem_append_right _ hx)).2⟩
   refine hOW B w0 S0 φ2 _ _ Q (hr5.putO o.dst ?_ _ _ ?_) hK
   ·
    cases hdd : o.dst with
    | none => trivial
    | some d => rw [hdd] at hd; exact hd
   · simp [vbool, RepV, RepD]
  rcases hj with ⟨rfl, rfl⟩ | ⟨hj0, ⟨rfl, hp⟩ | ⟨id, rfl, hp⟩⟩
  · exact fin none (by simp [LoopCtx.recd]) rfl
  · exact fin (some .ret) (by simp [LoopCtx.recd, hj0, hp]) (by simp [hj0])
  · exact fin (some (.exit id)) (by simp [LoopCtx.recd, hj0, hp]) (by simp [hj0])
 ·
  rintro e w'' ⟨b, rfl, hb⟩
  exact hb

end
end Go.PW
