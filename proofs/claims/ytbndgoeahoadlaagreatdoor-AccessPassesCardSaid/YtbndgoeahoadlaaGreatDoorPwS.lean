import Derived.Test.YtbndgoeahoadlaaGreatDoorPwR
set_option linter.all false
namespace Go.PW
open Go.RowKit

def V.cut (m : Nat) : V → V
 | .own j off n sz => if j < m then .own j off n sz else .dead
 | .ptr j off => if j < m then .ptr j off else .dead
 | .slf j => if j < m then .slf j else .dead
 | .agg cells => .agg (cuts m cells)
 | .clo f caps => .clo f (cuts m caps)
 | .tup vs => .tup (cuts m vs)
 | .guarded c r => .guarded c (r.cut m)
 | v => v
where
 cuts (m : Nat) : List V → List V
 | [] => []
 | v :: vs => v.cut m :: cuts m vs

theorem V.cuts_eq (m : Nat) : ∀ l, V.cut.cuts m l = l.map (V.cut m)
 | [] => rfl
 | v :: vs => by simp [V.cut.cuts, V.cuts_eq m vs]

section
variable {w : World} {S S' : Nat → Prop} {φ : Nat → Option Nat} {m m' : Nat}
mutual
theorem RepV.cut (hk : Keeps w S w S') : ∀ (d : V) (v : Value), RepV w S φ m d v → RepV w S' φ m' (d.cut m') v
 | .d x, v, hv => by simp only [V.cut, RepV] at hv ⊢; exact RepD.mono hk x v hv
 | .own i off n sz, v, hv => by
  simp only [V.cut]
  split
  · rename_i h; simp only [RepV] at hv ⊢; exact ⟨h, hv.2⟩
  · simp [RepV]
 | .ptr i off, v, hv => by
  simp only [V.cut]
  split
  · rename_i h; simp only [RepV] at hv ⊢; exact ⟨h, hv.2⟩
  · simp [RepV]
 | .agg cells, v, hv => by
  simp only [V.cut, RepV] at hv ⊢
  obtain ⟨vs, rfl, hr⟩ := hv
  exact ⟨vs, rfl, RepVs.cut hk cells vs hr⟩
 | .clo f caps, v, hv => by
  simp only [V.cut, RepV] at hv ⊢
  obtain ⟨vs, rfl, hr⟩ := hv
  exact ⟨vs, rfl, RepVs.cut hk caps vs hr⟩
 | .tup ds, v, hv => by
  simp only [V.cut, RepV] at hv ⊢
  obtain ⟨vs, rfl, hr⟩ := hv
  exact ⟨vs, rfl, RepVs.cut hk ds vs hr⟩
 | .guarded c r, v, hv => by simp only [V.cut, RepV] at hv ⊢; exact ⟨fun hc => RepV.cut hk r v (hv.1 hc), hv.2⟩
 | .dead, _, _ => by simp [V.cut, RepV]
 | .emp, _, hv => by simpa only [V.cut, RepV] using hv
 | .bnd f x, v, hv => by simp only [V.cut, RepV] at hv ⊢; obtain ⟨u, e, hr⟩ := hv; exact ⟨u, e, RepD.mono hk x u hr⟩
 | .slf i, v, hv => by
  simp only [V.cut]
  split
  · rename_i h; simp only [RepV] at hv ⊢; exact ⟨h, hv.2⟩
  · simp [RepV]
theorem RepVs.cut (hk : Keeps w S w S') : ∀ (ds : List V) (vs : List Value), RepVs w S φ m ds vs → RepVs w S' φ m' (V.cut.cuts m' ds) vs
 | [], vs, hv => by simpa [RepVs, V.cut.cuts] using hv
 | d :: ds, vs, hv => by
  simp only [RepVs, V.cut.cuts] at hv ⊢
  obtain ⟨v, vs', rfl, hr, ht⟩ := hv
  exact ⟨v, vs', rfl, RepV.cut hk d v hr, RepVs.cut hk ds vs' ht⟩
end
end

section
variable {w : World} {S : Nat → Prop} {φ : Nat → Option Nat} {m m' : Nat}
mutual
theorem cutStay (hm : m ≤ m') : ∀ (d : V) (v : Value), RepV w S φ m d v → RepV w S φ m (d.cut m') v
 | .d x, v, hv => by simpa only [V.cut] using hv
 | .own i off n sz, v, hv => by
  simp only [V.cut]
  rw [if_pos (by simp only [RepV] at hv; omega)]; exact hv
 | .ptr i off, v, hv => by
  simp only [V.cut]
  rw [if_pos (by simp only [RepV] at hv; omega)]; exact hv
 | .agg cells, v, hv => by
  simp only [V.cut, RepV] at hv ⊢
  obtain ⟨vs, rfl, hr⟩ := hv
  exact ⟨vs, rfl, cutsStay hm cells vs hr⟩
 | .clo f caps, v, hv => by
  simp only [V.cut, RepV] at hv ⊢
  obtain ⟨vs, rfl, hr⟩ := hv
  exact ⟨vs, rfl, cutsStay hm caps vs hr⟩
 | .tup ds, v, hv => by
  simp only [V.cut, RepV] at hv ⊢
  obtain ⟨vs, rfl, hr⟩ := hv
  exact ⟨vs, rfl, cutsStay hm ds vs hr⟩
 | .guarded c r, v, hv => by simp only [V.cut, RepV] at hv ⊢; exact ⟨fun hc => cutStay hm r v (hv.1 hc), hv.2⟩
 | .dead, _, _ => by simp [V.cut, RepV]
 | .emp, _, hv => by simpa only [V.cut, RepV] using hv
 | .bnd f x, _, hv => by simpa only [V.cut] using hv
 | .slf i, v, hv => by
  simp only [V.cut]
  rw [if_pos (by simp only [RepV] at hv; omega)]; exact hv
theorem cutsStay (hm : m ≤ m') : ∀ (ds : List V) (vs : List Value), RepVs w S φ m ds vs → RepVs w S φ m (V.cut.cuts m' ds) vs
 | [], vs, hv => by simpa [RepVs, V.cut.cuts] using hv
 | d :: ds, vs, hv => by
  simp only [RepVs, V.cut.cuts] at hv ⊢
  obtain ⟨v, vs', rfl, hr, ht⟩ := hv
  exact ⟨v, vs', rfl, cutStay hm d v hr, cutsStay hm ds vs' ht⟩
end
end

theorem get_map_cut (l : List (Nat × V)) (m t : Nat) : get (l.map fun x => (x.1, x.2.cut m)) t = (get l t).cut m := by
 induction l with
 | nil => simp [get, V.cut]
 | cons x l ih =>
  obtain ⟨s, v⟩ := x
  simp only [List.map_cons, get]
  split
  · rfl
  · exact ih

def Env.trunc (m : Nat) (env : Env) : Env :=
 { env with tmps := env.tmps.map fun x => (x.1, x.2.cut m), objs := (env.objs.take m).map fun ob => { ob with cells := ob.cells.map (V.cut m) } }

section
variable {ro : Option Nat} {P : Program} {B : Nat} {w0 : World} {S0 : Nat → Prop} {φ : Nat → Option Nat} {env : Env} {a : Act} {w : World}

theorem Rel.trunc (h : Rel B w0 S0 φ env a w) (m : Nat) (hgm : env.gs.1 ≤ m) : Rel B w0 S0 φ (env.trunc m) a w := by
 by_cases hm : env.objs.length ≤ m
 ·
  -- nothing is lost but what cannot be
  have hlen : (env.trunc m).objs.length = env.objs.length := by simp [Env.trunc]; omega
  have fix : ∀ (d : V) (v : Value), RepV w (Imm B S0 φ env.objs.length) φ env.objs.length d v → RepV w (Imm B S0 φ env.objs.length) φ env.objs.length (d.cut m) v := by
   intro d v hv
   exact cutStay hm d v hv
  refine ⟨h.below, h.base, h.nodef, h.size, fun t => ?_, ?_, ?_, ?_, ?_⟩
  · rw [hlen]; simp only [Env.trunc, get_map_cut]; exact fix _ _ (h.tmps t)
  ·
   intro i ob hi
   rw [hlen]
   simp only [Env.trunc, List.getElem?_map, List.take_of_length_le hm] at hi
   cases hq : env.objs[i]? with
   | none => simp [hq] at hi
   | some oq =>
    simp only [hq, Option.map_some, Option.some.injEq] at hi
    subst hi
    rcases h.objs i oq hq with ⟨h1, h2⟩ | ⟨g, cur, vals, rest, h1, h2, h3, h4⟩
    · exact .inl ⟨h1, by simp [h2]⟩
    ·
     refine .inr ⟨g, cur, vals, rest, h1, h2, h3, ?_⟩
     rw [← V.cuts_eq]; exact cutsStay hm _ _ h4
  · intro i g hi; rw [hlen] at hi; exact h.low i g hi
  · intro i j g hi hj; rw [hlen] at hi hj; exact h.inj i j g hi hj
  · rw [hlen]; exact h.ghost
 ·
  have hm' : m ≤ env.objs.length := by omega
  have hlen : (env.trunc m).objs.length = m := by simp [Env.trunc]; omega
  have hk : Keeps w (Imm B S0 φ env.objs.length) w (Imm B S0 φ m) := fun b o x hb hc => ⟨hc, hb.1, fun i hi => hb.2 i (by omega)⟩
  refine ⟨h.below, h.base, h.nodef, h.size, fun t => ?_, ?_, ?_, ?_, ?_⟩
  · rw [hlen]; simp only [Env.trunc, get_map_cut]; exact RepV.cut hk _ _ (h.tmps t)
  ·
   intro i ob hi
   rw [hlen]
   have him : i < m := by
    have := (List.getElem?_eq_some_iff.1 hi).1
    rwa [hlen] at this
   simp only [Env.trunc, List.getElem?_map, List.getElem?_take, him, if_true] at hi
   cases hq : env.objs[i]? with
   | none => simp [hq] at hi
   | some oq =>
    simp only [hq, Option.map_some, Option.some.injEq] at hi
    subst hi
    rcases h.objs i oq hq with ⟨h1, h2⟩ | ⟨g, cur, vals, rest, h1, h2, h3, h4⟩
    · exact .inl ⟨h1, by simp [h2]⟩
    ·
     refine .inr ⟨g, cur, vals, rest, h1, h2, h3, ?_⟩
     rw [← V.cuts_eq]; exact RepVs.cut hk _ _ h4
  · intro i g hi; rw [hlen] at hi; exact h.low i g (by omega)
  · intro i j g hi hj; rw [hlen] at hi hj; exact h.inj i j g (by omega) (by omega)
  ·
   rw [hlen]
   exact ⟨hgm, fun x hx => ⟨(h.ghost.2 x hx).1, RepV.mono (w := w) (w' := w) ⟨hk, KeepsOthers.refl _, Nat.le_refl _, fun i hi _ => ⟨rfl, fun g hg cur e hc => ⟨cur, hc, rfl⟩⟩⟩ _ _ (h.ghost.2 x hx).2⟩⟩

def Env.fit (S : List Nat) (m : Nat) (env : Env) : Env :=
 { env with tmps := (G2 S env.tmps).map fun x => (x.1, x.2.cut m), objs := (env.objs.take m).map fun ob => { ob with cells := ob.cells.map (V.cut m) } }

theorem Rel.fit (h : Rel B w0 S0 φ env a w) (S : List Nat) (m : Nat) (hgm : env.gs.1 ≤ m) : Rel B w0 S0 φ (env.fit S m) a w :=
 (h.weaken (env' := { env with tmps := G2 S env.tmps }) (Nat.le_refl _) rfl (fun t => get_keep S env.tmps t) rfl rfl).trunc m hgm

variable {Q : Exit → Env → Prop} {c : Code}
theorem PW.fit (S : List Nat) (m : Nat) (hgm : env.gs.1 ≤ m) (h : PW ro P c Q (env.fit S m)) : PW ro P c Q env :=
 fun B w0 S0 φ a w hr => h B w0 S0 φ a w (hr.fit S m hgm)

def bare (objs : List Ob) (gs : Nat × List (V × Value × Nat)) (th : (Nat → World → Prop) × Bool := (fun _ _ => True, false)) : Env := ⟨0, [], objs, gs, th⟩
def noAct : Act := { tmps := #[], defers := [] }
def k9 (ks : List Nat) (v : V) : V := ks.foldl (fun v k => v.kill k) v

theorem killAll_dead : ∀ ks, k9 ks .dead = .dead
 | [] => rfl
 | k :: ks => by simp only [k9, List.foldl_cons, V.kill]; exact killAll_dead ks
theorem get_map_killAll (l : List (Nat × V)) (ks : List Nat) (t : Nat) : get (l.map fun x => (x.1, k9 ks x.2)) t = k9 ks (get l t) := by
 induction l with
 | nil => simp [get, killAll_dead]
 | cons x l ih =>
  obtain ⟨s, v⟩ := x
  simp only [List.map_cons, get]
  split
  · rfl
  · exact ih
theorem get_absent (l : List (Nat × V)) (t : Nat) (h : ∀ x ∈ l, x.1 ≠ t) : get l t = .dead := by
 induction l with
 | nil => rfl
 | cons x l ih =>
  obtain ⟨s, v⟩ := x
  simp only [get]
  rw [if_neg (fun e => h (s, v) (by simp) e.symm)]
  exact ih fun x hx => h x (by simp [hx])

def CallM (P : Program) (f : FuncId) (args : List V) (objs : List Ob) (r : V) (objs' : List Ob) (ks : List Nat) : Prop :=
 (∀ args w, (callFunc f args).run P w = .ok (.enter f args) w) ∧
 ∀ B w0 S0 φ w (us : List Value) (gs : List (V × Value × Nat)), Rel B w0 S0 φ (bare objs (objs.length, gs)) noAct w → RepVs w (Imm B S0 φ objs.length) φ objs.length args us →
  Calls P f us.toArray w fun e w' => ∃ v φ', e = .returned v ∧ KeepsOthers w w' ∧ Rel B w0 S0 φ' (bare objs' (objs.length, gs.map fun x => (k9 ks x.1, x.2))) noAct w' ∧ RepV w' (Imm B S0 φ' objs'.length) φ' objs'.length r v

theorem get_pairs (l : List V) (k t : Nat) : get ((l.zipIdx k).map fun x => (x.2, x.1)) t = if k ≤ t then l.getD (t - k) .dead else .dead := by
 induction l generalizing k with
 | nil => simp [get]
 | cons d ds ih =>
  simp only [List.zipIdx_cons, List.map_cons, get, ih]
  by_cases h : t = k
  · subst h; simp
  ·
   rw [if_neg h]
   by_cases h2 : k ≤ t
   ·
    rw [if_pos h2, if_pos (by omega)]
    obtain ⟨j, rfl⟩ : ∃ j, t = k + 1 + j := ⟨t - (k + 1), by omega⟩
    rw [show k + 1 + j - (k + 1) = j by omega, show k + 1 + j - k = j + 1 by omega]
    simp
   · rw [if_neg h2, if_neg (by omega)]

def startM (nt : Nat) (args : List V) (objs : List Ob) (gs : List (V × Value × Nat)) (p : Nat → World → Prop) : Env := ⟨nt, args.zipIdx.map fun x => (x.2, x.1), objs, (objs.length, gs), (p, false)⟩

def EndsM (P : Program) (rs : List ResultVar) (r : V) (objs' : List Ob) (gs : Nat × List (V × Value × Nat)) (p : Nat → World → Prop) : Exit → Env → Prop :=
 fun e env => (e = .normal ∨ e = .ret) ∧ match resV P rs env with | (c, v) => c ∧ v = r ∧ env.objs = objs' ∧ env.gs = gs ∧ env.th = (p, false)

theorem CallM.of_PW {f : FuncId} {fn : Func} {c : Code} {args : List V} {objs objs' : List Ob} {r : V} {ks : List Nat} {rs : List ResultVar} {nt : Nat} (hf : P.funcs[f]? = some fn) (hb : fn.body = some c) (hrs : fn.results.toList = rs) (hnt : fn.ntmps = nt)
  (hcall : ∀ args w, (callFunc f args).run P w = .ok (.enter f args) w) (h : ∀ gs p, PW none P c (EndsM P rs r objs' (objs.length, gs.map fun x => (k9 ks x.1, x.2)) p) (startM nt args objs gs p)) : CallM P f args objs r objs' ks := by
 refine ⟨hcall, fun B w0 S0 φ w us gs hr hus => (F9 (ro := none) (n := 1)).1 (callsIn_of_wp hf hb trivial ?_ rfl)⟩
 have hl := RepVs.length _ _ hus
 have hrel : Rel B w0 S0 φ (startM nt args objs gs (fun _ => KeepsOthers w)) { tmps := us.toArray ++ Array.replicate (fn.ntmps - us.toArray.size) undef, defers := [] } w := by
  refine ⟨hr.below, hr.base, ⟨fun _ => rfl, ⟨[], rfl, List.nodup_nil, fun D hD => by simp at hD⟩, KeepsOthers.refl w, fun w1 w2 h1 h2 => h1.trans h2⟩, ?_, ?_, hr.objs, hr.low, hr.inj, hr.ghost⟩
  · simp [startM]; omega
  ·
   intro t
   simp only [startM, get_pairs, Nat.zero_le, if_true, Nat.sub_zero]
   by_cases ht : t < args.length
   ·
    obtain ⟨v, hv, hrep⟩ := RepVs.get _ _ hus t ht
    have e1 : (us.toArray ++ Array.replicate (fn.ntmps - us.toArray.size) undef).getD t undef = v := by
     have ht' : t < us.length := (List.getElem?_eq_some_iff.1 hv).1
     rw [Array.getD_eq_getD_getElem?, Array.getElem?_append_left (by simp; omega)]
     simp [hv]
    rw [e1]; exact hrep
   ·
    rw [show args.getD t .dead = .dead by simp [List.getD_eq_getElem?_getD, List.getElem?_eq_none (Nat.le_of_not_lt ht)]]
    simp [RepV]
 refine wpIn_mono (h gs (fun _ => KeepsOthers w) B w0 S0 φ _ w hrel) ?_
 rintro e a w' ⟨env', φ', ⟨he, hc, hv, ho, hg, hth⟩, hr'⟩
 obtain ⟨u, hu, hrep⟩ := run_results (P := P) (fn := fn) hr' (by rw [hrs]; exact hc)
 rw [hrs, show (resV P rs env').2 = r from hv] at hrep
 have hm := hr'.nodef
 rw [hth] at hm
 have hrel' : Rel B w0 S0 φ' (bare objs' (objs.length, gs.map fun x => (k9 ks x.1, x.2))) noAct w' := by
  subst ho
  refine ⟨hr'.below, hr'.base, Marks.nil _ _ _, Nat.zero_le _, fun t => by simp [bare, get, RepV], hr'.objs, hr'.low, hr'.inj, hg ▸ hr'.ghost⟩
 have hpost : a.defers = [] ∧ ∃ v, (results fn a.tmps).run P w' = .ok v w' ∧ ∃ v' φ'', Ending.returned v = .returned v' ∧ KeepsOthers w w' ∧ Rel B w0 S0 φ'' (bare objs' (objs.length, gs.map fun x => (k9 ks x.1, x.2))) noAct w' ∧ RepV w' (Imm B S0 φ'' objs'.length) φ'' objs'.length r v' :=
  ⟨hm.1 rfl, u, hu, u, φ', rfl, hm.2.2.1, hrel', by subst ho; exact hrep⟩
 rcases he with rfl | rfl <;> exact hpost

theorem EndsM.intro {P : Program} {rs : List ResultVar} {r : V} {objs' : List Ob} {gs : Nat × List (V × Value × Nat)} {p : Nat → World → Prop} {e : Exit} {env : Env} (he : e = .normal ∨ e = .ret) (h : match resV P rs env with | (c, v) => c ∧ v = r ∧ env.objs = objs' ∧ env.gs = gs ∧ env.th = (p, false)) : PW.EndsM P rs r objs' gs p e env := ⟨he, h⟩
attribute [irreducible] PW.EndsM

theorem OW.callM {all : List Oper} {K : Env → Prop} {o : Oper} {rest : List Oper} {fo : Operand} {xs : Array Operand} {ts : Array TypeId} (ho : o.op = .call { callee := .value fo, args := xs, argTypes := ts }) (hg : o.guard = none)
  {f : FuncId} {caps : List V} (hf : E0 (ev env fo) = some (f, caps)) {r : V} {objs' : List Ob} {ks : List Nat} (hc : CallM P f (xs.toList.map (ev env) ++ caps) env.objs r objs' ks) (hle : env.objs.length ≤ objs'.length) (hd : l5 env o.dst)
  (h : OW ro P all rest (putO { env with tmps := env.tmps.map fun x => (x.1, k9 ks x.2), objs := objs', gs := (env.gs.1, env.gs.2.map fun x => (k9 ks x.1, x.2)) } o.dst r) K) : OW ro P all (o :: rest) env K := by
 intro B w0 S0 φ a w Q hr hK
 obtain ⟨us, hex, hus⟩ := B9 hr ho hf hc.1
 unfold wpListIn
 rw [if_pos (k7 hg _)]
 refine wp_enter hex ?_
 have key := hc.2 B w0 S0 φ w us ((env.tmps.map fun x => (get env.tmps x.1, a.tmps.getD x.1 undef, env.objs.length)) ++ env.gs.2) ?_ hus
 ·
  refine key.mono ?_
  rintro e w' ⟨v, φ', rfl, hko, hr', hrep⟩
  refine ⟨v, rfl, ?_⟩
  have hg' := hr'.ghost.2
  have hrel : Rel B w0 S0 φ' { env with tmps := env.tmps.map fun x => (x.1, k9 ks x.2), objs := objs', gs := (env.gs.1, env.gs.2.map fun x => (k9 ks x.1, x.2)) } a w' := by
   refine ⟨hr'.below, hr'.base, hr.nodef.keeps hko, hr.size, fun t => ?_, hr'.objs, hr'.low, hr'.inj, Nat.le_trans hr.ghost.1 hle, fun x hx => ?_⟩
   ·
    rw [get_map_killAll]
    by_cases ht : ∃ x ∈ env.tmps, x.1 = t
    ·
     obtain ⟨x, hx, rfl⟩ := ht
     have := (hg' (k9 ks (get env.tmps x.1), a.tmps.getD x.1 undef, env.objs.length) (List.mem_map.2 ⟨(get env.tmps x.1, a.tmps.getD x.1 undef, env.objs.length), List.mem_append_left _ (List.mem_map.2 ⟨x, hx, rfl⟩), rfl⟩)).2
     exact RepV.mono (w := w') (w' := w') ⟨fun b o x hb hc => ⟨hc, hb⟩, KeepsOthers.refl _, hle, fun i hi _ => ⟨rfl, fun g hg cur e hc => ⟨cur, hc, rfl⟩⟩⟩ _ _ this
    · rw [get_absent _ _ (fun x hx e => ht ⟨x, hx, e⟩), killAll_dead]; simp [RepV]
   ·
    obtain ⟨y, hy, rfl⟩ := List.mem_map.1 hx
    have h1 := (hg' (k9 ks y.1, y.2) (List.mem_map.2 ⟨y, List.mem_append_right _ hy, rfl⟩)).2
    exact ⟨(hr.ghost.2 y hy).1, h1⟩
  exact h B w0 S0 φ' _ w' Q (hrel.putO o.dst hd _ v hrep) hK
 ·
  refine ⟨hr.below, hr.base, Marks.nil _ _ _, Nat.zero_le _, fun t => by simp [bare, get, RepV], hr.objs, hr.low, hr.inj, Nat.le_refl _, fun x hx => ?_⟩
  rcases List.mem_append.1 hx with hx | hx
  ·
   obtain ⟨y, hy, rfl⟩ := List.mem_map.1 hx
   exact ⟨Nat.le_refl _, hr.tmps y.1⟩
  · exact ⟨Nat.le_trans (hr.ghost.2 x hx).1 hr.ghost.1, (hr.ghost.2 x hx).2⟩
end
end Go.PW
