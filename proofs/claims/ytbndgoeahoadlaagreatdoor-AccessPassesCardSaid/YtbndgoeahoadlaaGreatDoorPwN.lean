import Derived.Test.YtbndgoeahoadlaaGreatDoorPwM
set_option linter.all false
namespace Go.PW
open Go.RowKit

theorem get_start (ds : List D) (k t : Nat) : get ((ds.zipIdx k).map fun x => (x.2, V.d x.1)) t = if k ≤ t then (match ds[t - k]? with | some d => .d d | none => .dead) else .dead := by
 induction ds generalizing k with
 | nil => simp [get]
 | cons d ds ih =>
  simp only [List.zipIdx_cons, List.map_cons, get, ih]
  by_cases h : t = k
  · subst h; simp
  ·
   rw [if_neg h]
   by_cases h2 : k ≤ t
   ·
    rw [if_pos h2, if_pos (by omega)]
    obtain ⟨j, rfl⟩ : ∃ j, t = k + 1 + j := ⟨t - (k + 1), by omega⟩
    rw [show k + 1 + j - (k + 1) = j by omega, show k + 1 + j - k = j + 1 by omega]
    simp
   · rw [if_neg h2, if_neg (by omega)]

def n7 (nt : Nat) (ds : List D) : Env := { nt, tmps := ds.zipIdx.map fun x => (x.2, V.d x.1), objs := [] }

def E4 (P : Program) (env : Env) : ResultVar → Prop × V
 | .tmp t => (True, get env.tmps t)
 | .cell a t => match get env.tmps a with
  | .ptr i off => loadF P env.objs t (.ptr i off)
  | _ => bad
def resV (P : Program) (rs : List ResultVar) (env : Env) : Prop × V :=
 match rs with
 | [] => (True, .tup [])
 | [x] => E4 P env x
 | [x, y] => ((E4 P env x).1 ∧ (E4 P env y).1, .tup [(E4 P env x).2, (E4 P env y).2])
 | [x, y, z] => ((E4 P env x).1 ∧ (E4 P env y).1 ∧ (E4 P env z).1, .tup [(E4 P env x).2, (E4 P env y).2, (E4 P env z).2])
 | _ => bad

def RetOK (env : Env) (v r : V) (obs : Obs) : Prop :=
 ∀ B w0 S0 φ a w, Rel B w0 S0 φ env.plain a w → ∀ u, RepV w (Imm B S0 φ env.objs.length) φ env.objs.length v u → ∃ φ', RepV w (Imm B S0 φ' obs.length) φ' obs.length r u ∧
  (∀ i ob, obs[i]? = some ob → ObRep w (Imm B S0 φ' obs.length) φ' obs.length i (toOb ob)) ∧ (∀ i g, i < obs.length → φ' i = some g → B ≤ g) ∧
  (∀ i j g, i < obs.length → j < obs.length → φ' i = some g → φ' j = some g → i = j)

section
variable {P : Program}

def resRun (tmps : Array Value) : ResultVar → Sem Value
 | .tmp t => pure (tmps.getD t undef)
 | .cell a t => do loadVar t (← asAddr (tmps.getD a undef))

theorem F4 {B : Nat} {w0 : World} {S0 : Nat → Prop} {φ : Nat → Option Nat} {env : Env} {a : Act} {w : World} (hr : Rel B w0 S0 φ env a w) (x : ResultVar) (h : (E4 P env x).1) :
  ∃ u, (resRun a.tmps x).run P w = .ok u w ∧ RepV w (Imm B S0 φ env.objs.length) φ env.objs.length (E4 P env x).2 u := by
 cases x with
 | tmp t => exact ⟨_, rfl, hr.tmps t⟩
 | cell ad t =>
  simp only [E4] at h ⊢
  have hv := hr.tmps ad
  split at h
  ·
   rename_i i off he
   rw [he] at hv
   have hv' := hv
   simp only [RepV] at hv'
   obtain ⟨_, g, _, hp⟩ := hv'
   obtain ⟨u, hu, hrep⟩ := loadF_sound (P := P) hr.objs hv h
   refine ⟨u, ?_, hrep⟩
   rw [hp] at hu
   simp only [resRun, hp]
   simpa [Instr.loadAt, Instr.sureAddr, asAddr] using hu
  · exact h.elim

theorem results_eq (fn : Func) (tmps : Array Value) : results fn tmps = (do let vs ← fn.results.mapM (resRun tmps); pure (if h : vs.size = 1 then vs[0] else .tuple vs)) := by
 unfold results
 congr 1

theorem run_results {fn : Func} {B : Nat} {w0 : World} {S0 : Nat → Prop} {φ : Nat → Option Nat} {env : Env} {a : Act} {w : World} (hr : Rel B w0 S0 φ env a w) (h : (resV P fn.results.toList env).1) :
  ∃ u, (results fn a.tmps).run P w = .ok u w ∧ RepV w (Imm B S0 φ env.objs.length) φ env.objs.length (resV P fn.results.toList env).2 u := by
 have hfn : fn.results = fn.results.toList.toArray := by simp
 rw [results_eq]
 unfold resV at h ⊢
 split at h
 ·
  rename_i he
  rw [he] at hfn
  exact ⟨.tuple #[], by simp [hfn], by simp [RepV, RepVs]⟩
 ·
  rename_i x he
  rw [he] at hfn
  obtain ⟨u, hu, hrep⟩ := F4 hr x h
  exact ⟨u, by simp [hfn, hu], by simpa [he] using hrep⟩
 ·
  rename_i x y he
  rw [he] at hfn
  obtain ⟨u, hu, hrep⟩ := F4 hr x h.1
  obtain ⟨u', hu', hrep'⟩ := F4 hr y h.2
  refine ⟨.tuple #[u, u'], by simp [hfn, hu, hu'], ?_⟩
  simp only [RepV, RepVs]
  exact ⟨_, rfl, _, _, rfl, hrep, _, _, rfl, hrep', rfl⟩
 ·
  rename_i x y z he
  rw [he] at hfn
  obtain ⟨u, hu, hrep⟩ := F4 hr x h.1
  obtain ⟨u', hu', hrep'⟩ := F4 hr y h.2.1
  obtain ⟨u'', hu'', hrep''⟩ := F4 hr z h.2.2
  refine ⟨.tuple #[u, u', u''], by simp [hfn, hu, hu', hu''], ?_⟩
  simp only [RepV, RepVs]
  exact ⟨_, rfl, _, _, rfl, hrep, _, _, rfl, hrep', _, _, rfl, hrep'', rfl⟩
 · exact h.elim

def SameCells (w w' : World) : Prop := ∀ (g : Nat) (cur : Array Value) (e : TypeId) (fr : Nat × Nat), w.heap[g]? = some (.cells cur e fr) → w'.heap[g]? = some (.cells cur e fr)
theorem SameCells.cell {w w' : World} (h : SameCells w w') {a : Addr} {x : Value} (hx : w.cell? a = some x) : w'.cell? a = some x := by
 obtain ⟨o, ho, hc⟩ := cells_of_cell hx
 cases o with
 | cells cur e fr => exact (World.cell?_of_block ((h _ _ _ _ ho).trans ho.symm)).trans hx
 | _ => simp [Obj.isCells] at hc
section
variable {w w' : World} {S : Nat → Prop} {φ : Nat → Option Nat} {m : Nat}
mutual
theorem RepV.same (h : SameCells w w') : ∀ (d : V) (v : Value), RepV w S φ m d v → RepV w' S φ m d v
 | .d x, v, hv => by simp only [RepV] at hv ⊢; exact RepD.mono (fun b o y hb hy => ⟨h.cell hy, hb⟩) x v hv
 | .own i off n sz, v, hv => by
  simp only [RepV] at hv ⊢
  obtain ⟨hi, hv⟩ := hv
  refine ⟨hi, hv.imp id ?_⟩
  rintro ⟨g, cap, cur, e, hg, rfl, hn, hm, hh, hr⟩
  exact ⟨g, cap, cur, e, hg, rfl, hn, hm, h _ _ _ _ hh, hr⟩
 | .ptr i off, v, hv => by simpa only [RepV] using hv
 | .agg cells, v, hv => by
  simp only [RepV] at hv ⊢
  obtain ⟨vs, rfl, hr⟩ := hv
  exact ⟨vs, rfl, RepVs.same h cells vs hr⟩
 | .clo f caps, v, hv => by
  simp only [RepV] at hv ⊢
  obtain ⟨vs, rfl, hr⟩ := hv
  exact ⟨vs, rfl, RepVs.same h caps vs hr⟩
 | .tup ds, v, hv => by
  simp only [RepV] at hv ⊢
  obtain ⟨vs, rfl, hr⟩ := hv
  exact ⟨vs, rfl, RepVs.same h ds vs hr⟩
 | .guarded c r, v, hv => by simp only [RepV] at hv ⊢; exact ⟨fun hc => RepV.same h r v (hv.1 hc), hv.2⟩
 | .dead, _, _ => by simp [RepV]
 | .emp, _, hv => by simpa only [RepV] using hv
 | .bnd f x, v, hv => by simp only [RepV] at hv ⊢; obtain ⟨u, e, hr⟩ := hv; exact ⟨u, e, RepD.mono (fun b o y hb hy => ⟨h.cell hy, hb⟩) x u hr⟩
 | .slf i, v, hv => by
  simp only [RepV] at hv ⊢
  obtain ⟨hi, g, cur, e, hg, hc, hs, hv⟩ := hv
  exact ⟨hi, g, cur, e, hg, h _ _ _ _ hc, hs, hv⟩
theorem RepVs.same (h : SameCells w w') : ∀ (ds : List V) (vs : List Value), RepVs w S φ m ds vs → RepVs w' S φ m ds vs
 | [], vs, hv => by simpa [RepVs] using hv
 | d :: ds, vs, hv => by
  simp only [RepVs] at hv ⊢
  obtain ⟨v, vs', rfl, hr, ht⟩ := hv
  exact ⟨v, vs', rfl, RepV.same h d v hr, RepVs.same h ds vs' ht⟩
end
end
theorem sameCells_putObj {w : World} {D : Nat} {o : Obj} (o' : Obj) (h : w.heap[D]? = some o) (hc : o.isCells = false) : SameCells w (w.putObj D o') := by
 intro g cur e fr hg
 have : g ≠ D := by rintro rfl; rw [h] at hg; cases hg; simp [Obj.isCells] at hc
 exact (World.putObj_heap_other this).trans hg

theorem Rel.plain {B : Nat} {w0 : World} {S0 : Nat → Prop} {φ : Nat → Option Nat} {env : Env} {a : Act} {w : World} (h : Rel B w0 S0 φ env a w) : Rel B w0 S0 φ env.plain a w :=
 ⟨h.below, h.base, h.nodef.less, h.size, h.tmps, h.objs, h.low, h.inj, Nat.zero_le _, fun x hx => by simp [Env.plain] at hx⟩
theorem Rel.take {B : Nat} {w0 : World} {S0 : Nat → Prop} {φ : Nat → Option Nat} {env : Env} {tmps : Array Value} {Ds : List Nat} {D : Nat} {w : World} (hth : env.th.1 = fun _ _ => True) (h : Rel B w0 S0 φ env { tmps, defers := (D :: Ds).map mark } w) :
  (Instr.takeDeferred D).run P w = .ok [] (w.putObj D (.deferred none)) ∧ Rel B w0 S0 φ env { tmps, defers := Ds.map mark } (w.putObj D (.deferred none)) := by
 obtain ⟨h0, ⟨Ds', h1, h2, h3⟩, h4, h5⟩ := h.nodef
 have hDs : Ds' = D :: Ds := by
  exact ((List.map_inj_right (fun x y e => by simpa [mark] using e)).1 h1).symm
 subst hDs
 obtain ⟨hB, hD⟩ := h3 D (by simp)
 have hs := sameCells_putObj (.deferred none) hD rfl
 refine ⟨run_takeDeferred hD, ?_, h.base, ⟨fun e => by simpa using h0 e, ⟨Ds, rfl, (List.nodup_cons.1 h2).2, fun D' hD' => ⟨(h3 D' (by simp [hD'])).1, ?_⟩⟩, by rw [hth]; trivial, h5⟩, h.size, fun t => RepV.same hs _ _ (h.tmps t), fun i ob hi => ?_, h.low, h.inj, h.ghost.1, fun x hx => ⟨(h.ghost.2 x hx).1, RepV.same hs _ _ (h.ghost.2 x hx).2⟩⟩
 · exact h.below.trans ((Below.refl B w).grown (grownBy_putObj' w D _) (by have := (Array.getElem?_eq_some_iff.1 hD).1; omega) (fun k e => by cases e; exact hB))
 ·
  have : D' ≠ D := by rintro rfl; exact (List.nodup_cons.1 h2).1 hD'
  exact (World.putObj_heap_other this).trans (h3 D' (by simp [hD'])).2
 ·
  rcases h.objs i ob hi with ⟨g1, g2⟩ | ⟨g, cur, vals, rest, g1, g2, g3, g4⟩
  · exact .inl ⟨g1, g2⟩
  · exact .inr ⟨g, cur, vals, rest, g1, hs _ _ _ _ g2, g3, RepVs.same hs _ _ g4⟩
theorem leaves_marks {B : Nat} {w0 : World} {S0 : Nat → Prop} {φ : Nat → Option Nat} {env : Env} {tmps : Array Value} {fn : Func} {R : Ending → World → Prop} (hth : env.th.1 = fun _ _ => True)
  (hend : ∀ w, Rel B w0 S0 φ env { tmps, defers := [] } w → ∃ v, (results fn tmps).run P w = .ok v w ∧ R (.returned v) w) :
  ∀ (Ds : List Nat) (w : World), Rel B w0 S0 φ env { tmps, defers := Ds.map mark } w → LeavesInM (Fd none) 1 P fn tmps R (Ds.map mark) .returning w
 | [], w, h => hend w h
 | D :: Ds, w, h => by
  obtain ⟨h1, h2⟩ := h.take (P := P) hth
  exact ⟨by simp, .inl ⟨D, _, rfl, h1, leaves_marks hth hend Ds _ h2⟩⟩

def Ends (P : Program) (rs : List ResultVar) (r : V) (obs : Obs) : Exit → Env → Prop :=
 fun e env => (e = .normal ∨ e = .ret) ∧ match resV P rs env with | (c, v) => c ∧ RetOK env v r obs

theorem i7 {f : FuncId} {fn : Func} {c : Code} {ds : List D} {r : V} {obs : Obs} {rs : List ResultVar} {nt : Nat} (hf : P.funcs[f]? = some fn) (hb : fn.body = some c) (hrs : fn.results.toList = rs) (hnt : fn.ntmps = nt)
  (hcall : ∀ args w, (callFunc f args).run P w = .ok (.enter f args) w) (h : PW none P c (Ends P rs r obs) (n7 nt ds)) : CallOK P f ds r obs := by
 refine ⟨hcall, fun w S vs hgi hvs => (F9 (ro := none) (n := 1)).1 (callsIn_of_wp_marks hf hb trivial ?_ rfl)⟩
 have hl := RepAll.length _ _ hvs
 have hrel : Rel w.heap.size w S (fun _ => none) (n7 nt ds) { tmps := vs.toArray ++ Array.replicate (fn.ntmps - vs.toArray.size) undef, defers := [] } w := by
  refine ⟨Below.refl _ _, ⟨Nat.le_refl _, hgi⟩, Marks.nil _ _ _, ?_, ?_, ?_, ?_, ?_, ?_⟩
  · simp [n7]; omega
  ·
   intro t
   simp only [n7, get_start, Nat.zero_le, if_true, Nat.sub_zero]
   cases hd : ds[t]? with
   | none => simp [RepV]
   | some d =>
    have ht : t < ds.length := (List.getElem?_eq_some_iff.1 hd).1
    have h1 := RepAll.get _ _ hvs t ht
    simp only [RepV]
    have e1 : (vs.toArray ++ Array.replicate (fn.ntmps - vs.toArray.size) undef).getD t undef = vs.getD t undef := by
     simp only [Array.getD_eq_getD_getElem?, List.getD_eq_getElem?_getD]
     rw [Array.getElem?_append_left (by simp; omega)]
     simp
    have e2 : ds.getD t default = d := by simp [List.getD_eq_getElem?_getD, hd]
    rw [e1]
    rw [e2] at h1
    refine RepD.mono (S := S) (w := w) (fun b o x hb hc => ⟨hc, .inl hb, fun i hi => ?_⟩) d _ h1
    simp at hi
  · intro i ob hi; simp [n7] at hi
  · intro i g hi; simp [n7] at hi
  · intro i j g hi; simp [n7] at hi
  · exact ⟨Nat.zero_le _, fun x hx => by simp [n7] at hx⟩
 refine wpIn_mono (h w.heap.size w S (fun _ => none) _ w hrel) ?_
 rintro e a w' ⟨env', φ', ⟨he, hv, hret⟩, hr'⟩
 have hpost : LeavesInM (Fd none) 1 P fn a.tmps (fun e w' => ∃ v φ, e = .returned v ∧ ResRep w w' S φ r obs v) a.defers .returning w' := by
  obtain ⟨Ds, hDs, _⟩ := hr'.nodef.2.1
  obtain ⟨tmps, defers⟩ := a
  simp only at hDs
  subst hDs
  refine leaves_marks (env := env'.plain) rfl (fun w2 hr2 => ?_) Ds w' hr'.plain
  have hv2 : (resV P rs env'.plain) = resV P rs env' := rfl
  obtain ⟨u, hu, hrep⟩ := run_results (P := P) (fn := fn) hr2 (by rw [hrs, hv2]; exact hv)
  rw [hrs, hv2] at hrep
  obtain ⟨φr, h1, h2, h3, h4⟩ := hret _ _ _ _ _ _ hr2 u hrep
  exact ⟨u, hu, u, φr, rfl, ⟨hr2.below, h1, h2, h3, h4⟩⟩
 rcases he with rfl | rfl <;> exact hpost

theorem Ends.intro {P : Program} {rs : List ResultVar} {r : V} {obs : Obs} {e : Exit} {env : Env} (he : e = .normal ∨ e = .ret) (h : match resV P rs env with | (c, v) => c ∧ RetOK env v r obs) : PW.Ends P rs r obs e env := ⟨he, h⟩
attribute [irreducible] PW.Ends

theorem RetOK.data {env : Env} {v : V} (k : Nat) (hok : okD env.objs k v) : RetOK env v (.d (toD env.objs k v)) [] := by
 intro B w0 S0 φ a w hr u hu
 refine ⟨fun _ => none, ?_, fun i ob h => by simp at h, fun i g h => by simp at h, fun i j g h => by simp at h⟩
 simp only [RepV]
 exact toD_rep hr (fun b hb => ⟨hb.1, fun i hi => by simp at hi⟩) (fun i g hi hg => ⟨.inr (hr.low i g hi hg), fun i hi => by simp at hi⟩) k v u hu hok

theorem b8 {env : Env} {v : V} {x : D} (k : Nat) (hok : okD env.objs k v) (h : toD env.objs k v = x) : RetOK env v (.d x) [] := h ▸ RetOK.data k hok

def ren (i : Nat) : V → V
 | .own j off n sz => if j = i then .own 0 off n sz else .dead
 | .d x => .d x
 | .tup vs => .tup (rens i vs)
 | _ => .dead
where
 rens (i : Nat) : List V → List V
 | [] => []
 | v :: vs => ren i v :: rens i vs

mutual
theorem ren_rep {w : World} {S S' : Nat → Prop} {φ φ' : Nat → Option Nat} {m m' i : Nat} (hk : Keeps w S w S') (hm : 0 < m') (hφ : φ' 0 = φ i) : ∀ (v : V) (u : Value), RepV w S φ m v u → RepV w S' φ' m' (ren i v) u
 | .d x, u, h => by simp only [ren, RepV] at h ⊢; exact RepD.mono hk x u h
 | .own j off n sz, u, h => by
  simp only [ren]
  split
  ·
   rename_i e
   subst e
   simp only [RepV] at h ⊢
   refine ⟨hm, h.2.imp id ?_⟩
   rintro ⟨g, cap, cur, e, hg, rest⟩
   exact ⟨g, cap, cur, e, hφ.trans hg, rest⟩
  · simp [RepV]
 | .tup vs, u, h => by
  simp only [ren, RepV] at h ⊢
  obtain ⟨us, rfl, hr⟩ := h
  exact ⟨us, rfl, rens_rep hk hm hφ vs us hr⟩
 | .ptr .., _, _ => by simp [ren, RepV]
 | .agg _, _, _ => by simp [ren, RepV]
 | .clo .., _, _ => by simp [ren, RepV]
 | .guarded .., _, _ => by simp [ren, RepV]
 | .dead, _, _ => by simp [ren, RepV]
 | .slf _, _, _ => by simp [ren, RepV]
 | .emp, _, _ => by simp [ren, RepV]
 | .bnd .., _, _ => by simp [ren, RepV]
theorem rens_rep {w : World} {S S' : Nat → Prop} {φ φ' : Nat → Option Nat} {m m' i : Nat} (hk : Keeps w S w S') (hm : 0 < m') (hφ : φ' 0 = φ i) : ∀ (vs : List V) (us : List Value), RepVs w S φ m vs us → RepVs w S' φ' m' (ren.rens i vs) us
 | [], us, h => by simpa [RepVs, ren.rens] using h
 | v :: vs, us, h => by
  simp only [RepVs, ren.rens] at h ⊢
  obtain ⟨u, us', rfl, hr, ht⟩ := h
  exact ⟨u, us', rfl, ren_rep hk hm hφ v u hr, rens_rep hk hm hφ vs us' ht⟩
end

theorem RetOK.own {env : Env} {v : V} (i : Nat) (ds : List D) (e : TypeId) (hob : env.objs[i]? = some ⟨ds.map .d, e⟩) {r : V} (hv : PW.ren i v = r) : RetOK env v r [(ds, e)] := by
 subst hv
 intro B w0 S0 φ a w hr u hu
 have hi : i < env.objs.length := (List.getElem?_eq_some_iff.1 hob).1
 have hk : Keeps w (Imm B S0 φ env.objs.length) w (Imm B S0 (fun _ => φ i) 1) := fun b o x hb hc => ⟨hc, hb.1, fun j hj => hb.2 i hi⟩
 refine ⟨fun _ => φ i, ?_, ?_, ?_, ?_⟩
 · exact ren_rep (i := i) (m' := 1) hk Nat.one_pos rfl v u hu
 ·
  intro j ob hj
  have hj0 : j = 0 := by
   have := (List.getElem?_eq_some_iff.1 hj).1
   simp at this; exact this
  subst hj0
  simp only [List.getElem?_cons_zero, Option.some.injEq] at hj
  subst hj
  rcases hr.objs i _ hob with ⟨h1, h2⟩ | ⟨g, cur, vals, rest, h1, h2, h3, h4⟩
  · exact .inl ⟨h1, h2⟩
  · exact .inr ⟨g, cur, vals, rest, h1, h2, h3, (RepAll.mono hk _ _ (RepVs.repAll h4)).repVs⟩
 · intro j g _ hg; exact hr.low i g hi hg
 · intro j k g hj hk' _ _; simp at hj hk'; omega

theorem d5 {ro : Option Nat} {c : Operand} {x y : Code} {Q : Exit → Env → Prop} {env : Env} {b : Bool} (hc : ev env c = .d (.val (.bool b))) (ht : b = true → PW ro P x Q env) (hf : b = false → PW ro P y Q env) : PW ro P (.cond c x y) Q env := by
 intro B w0 S0 φ a w hr
 have he := hr.ev c
 rw [hc] at he
 simp only [RepV, RepD] at he
 exact wpIn_cond_split he (fun h => ht h _ _ _ _ _ _ hr) (fun h => hf h _ _ _ _ _ _ hr)
end
end Go.PW
