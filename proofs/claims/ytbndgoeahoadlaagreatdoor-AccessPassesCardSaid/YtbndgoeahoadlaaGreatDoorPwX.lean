import Derived.Test.YtbndgoeahoadlaaGreatDoorPwW
set_option linter.all false
namespace Go.PW
open Go.RowKit
attribute [go_sem] Env.behind toOb List.zip_cons_cons List.zip_nil_left List.zip_nil_right
section
variable {P : Program} {env : Env}
theorem OW.inline {ro : Option Nat} {all rest : List Oper} {K : Env → Prop} {o : Oper} {fo : Operand} {xs : Array Operand} {ts : Array TypeId} {f : FuncId} {caps vs : List V} {fn : Func} {cg : Code} {rs : List ResultVar} {nt : Nat}
  (ho : o.op = .call { callee := .value fo, args := xs, argTypes := ts }) (hg : o.guard = none) (hf : E0 (ev env fo) = some (f, caps)) (hvs : xs.toList.map (ev env) ++ caps = vs)
  (hfn : P.funcs[f]? = some fn) (hb : fn.body = some cg) (hrs : fn.results.toList = rs) (hnt : fn.ntmps = nt) (hcall : ∀ args w, (callFunc f args).run P w = .ok (.enter f args) w) (hd : l5 env o.dst)
  (h : ∀ (us : Array Value) (p : Nat → World → Prop), PW none P cg (fun e env1 => (e = .normal ∨ e = .ret) ∧ env1.th = (p, false) ∧ env1.gs = (env.objs.length, toG env.tmps us env.objs.length ++ env.gs.2) ∧
    match resV P rs env1 with | (c, v) => c ∧ OW ro P all rest (putO (env.behind env1.objs env.th) o.dst v) K)
   ⟨nt, vs.zipIdx.map fun x => (x.2, x.1), env.objs, (env.objs.length, toG env.tmps us env.objs.length ++ env.gs.2), (p, false)⟩) :
  OW ro P all (o :: rest) env K := by
 subst hvs
 intro B w0 S0 φ a w Q hr hK
 obtain ⟨us, hex, hus⟩ := B9 hr ho hf hcall
 unfold wpListIn
 rw [if_pos (k7 hg _)]
 refine wp_enter hex ((F9 (ro := none) (n := 1)).1 (callsIn_of_wp hfn hb trivial ?_ rfl))
 have hl := RepVs.length _ _ hus
 obtain ⟨m0, ⟨Ds, m1, m2, m3⟩, m4, m5⟩ := hr.nodef
 have hrel : Rel B w0 S0 φ ⟨nt, (xs.toList.map (PW.ev env) ++ caps).zipIdx.map fun x => (x.2, x.1), env.objs, (env.objs.length, toG env.tmps a.tmps env.objs.length ++ env.gs.2), ((fun B W => env.th.1 B W ∧ ∀ D ∈ Ds, W.heap[D]? = some (.deferred (some []))), false)⟩
   { tmps := us.toArray ++ Array.replicate (fn.ntmps - us.toArray.size) undef, defers := [] } w := by
  refine ⟨hr.below, hr.base, ⟨fun _ => rfl, ⟨[], rfl, List.nodup_nil, fun D hD => by simp at hD⟩, ⟨m4, fun D hD => (m3 D hD).2⟩, fun w1 w2 h1 h2 => ⟨m5 _ _ h1.1 h2, fun D hD => h2.same _ _ (h1.2 D hD) rfl⟩⟩, ?_, ?_, hr.objs, hr.low, hr.inj, Nat.le_refl _, fun x hx => ?_⟩
  · simp; omega
  ·
   intro t
   simp only [get_pairs, Nat.zero_le, if_true, Nat.sub_zero]
   by_cases ht : t < (xs.toList.map (PW.ev env) ++ caps).length
   ·
    obtain ⟨v, hv, hrep⟩ := RepVs.get _ _ hus t ht
    have e1 : (us.toArray ++ Array.replicate (fn.ntmps - us.toArray.size) undef).getD t undef = v := by
     have ht' : t < us.length := (List.getElem?_eq_some_iff.1 hv).1
     rw [Array.getD_eq_getD_getElem?, Array.getElem?_append_left (by simpa using ht')]
     simp [hv]
    rw [e1]; exact hrep
   ·
    rw [show (xs.toList.map (PW.ev env) ++ caps).getD t .dead = .dead by rw [List.getD_eq_getElem?_getD, List.getElem?_eq_none (Nat.le_of_not_lt ht)]; rfl]
    simp [RepV]
  ·
   rcases List.mem_append.1 hx with hx | hx
   · exact toG_rep hr x hx
   · exact ⟨Nat.le_trans (hr.ghost.2 x hx).1 hr.ghost.1, (hr.ghost.2 x hx).2⟩
 refine wpIn_mono (h a.tmps _ B w0 S0 φ _ w hrel) ?_
 rintro e a1 w' ⟨env1, φ1, ⟨he, hth, hgs, hc, hOW⟩, hr'⟩
 obtain ⟨u, hu, hrep⟩ := run_results (P := P) (fn := fn) hr' (by rw [hrs]; exact hc)
 rw [hrs] at hrep
 have hm := hr'.nodef
 rw [hth] at hm
 have hrel' : Rel B w0 S0 φ1 (env.behind env1.objs env.th) a w' := by
  refine ⟨hr'.below, hr'.base, ⟨m0, ⟨Ds, m1, m2, fun D hD => ⟨(m3 D hD).1, hm.2.2.1.2 D hD⟩⟩, hm.2.2.1.1, m5⟩, hr.size, fun t => slotsBack hr' (tmps := env.tmps) (us := a.tmps) (m := env.objs.length) (G := env.gs.2) (by rw [hgs]) t, hr'.objs, hr'.low, hr'.inj, ?_, fun x hx => ?_⟩
  · have := hr'.ghost.1; rw [hgs] at this; exact Nat.le_trans hr.ghost.1 this
  · exact ⟨(hr.ghost.2 x hx).1, (hr'.ghost.2 x (by rw [hgs]; exact List.mem_append_right _ hx)).2⟩
 have hpost : a1.defers = [] ∧ ∃ v, (results fn a1.tmps).run P w' = .ok v w' ∧ ∃ v', Ending.returned v = .returned v' ∧ wpListIn (Fd ro) 1 P all.toArray Q rest (a.put o.dst v') w' :=
  ⟨hm.1 rfl, u, hu, u, rfl, hOW B w0 S0 φ1 _ w' Q (hrel'.putO o.dst hd _ u hrep) hK⟩
 rcases he with rfl | rfl <;> exact hpost

theorem k6 {ro : Option Nat} {all rest : List Oper} {K : Env → Prop} {o : Oper} {fo : Operand} {xs : Array Operand} {ts : Array TypeId} {f : FuncId} {caps vs : List V} {fn : Func} {cg : Code} {rs : List ResultVar} {nt : Nat}
  (ho : o.op = .call { callee := .value fo, args := xs, argTypes := ts }) (hg : o.guard = none) (hf : E0 (ev env fo) = some (f, caps)) (hvs : xs.toList.map (ev env) ++ caps = vs)
  (hfn : P.funcs[f]? = some fn) (hb : fn.body = some cg) (hrs : fn.results.toList = rs) (hnt : fn.ntmps = nt) (hcall : ∀ args w, (callFunc f args).run P w = .ok (.enter f args) w) (hd : l5 env o.dst)
  (h : ∀ (p : Nat → World → Prop) (G : Gh), PW none P cg (fun e env1 => (e = .normal ∨ e = .ret) ∧ env1.th = (p, false) ∧ env1.gs = (env.objs.length, G) ∧
    match resV P rs env1 with | (c, v) => c ∧ OW ro P all rest (putO (env.behind env1.objs env.th) o.dst v) K)
   ⟨nt, vs.zipIdx.map fun x => (x.2, x.1), env.objs, (env.objs.length, G), (p, false)⟩) :
  OW ro P all (o :: rest) env K := OW.inline ho hg hf hvs hfn hb hrs hnt hcall hd fun _ p => h p _

theorem selOf_slice {t : TypeId} {e : TypeId} (h : C4 P t = some e) : P.underlying t = some (.slice e) := by
 unfold C4 at h
 split at h
 · rename_i e' h'; cases h; exact h'
 all_goals cases h
theorem G5 (w : World) {t e : TypeId} (ad : Option Addr) (n cap : Nat) (hu : P.underlying t = some (.slice e)) : (Op.equal t (.slice ad n cap) (.slice none 0 0)).run P w = .ok ad.isNone w := by
 have h1 : (Go.underlying t).run P w = .ok (.slice e) w := by simp [Go.underlying, hu]
 unfold Op.equal
 rw [show Op.maxDepth = Nat.succ 9999 from rfl, Op.equalIn, Sem.run_bind, h1]
 cases ad <;> rfl
theorem OW.binNil {ro : Option Nat} {all rest : List Oper} {K : Env → Prop} {o : Oper} {t yt e : TypeId} {x y : Operand} {n : Nat} {cells : List D} (ho : o.op = .binOp .eql t x y yt) (hg : o.guard = none) (hs : C4 P t = some e)
  (hx : ev env x = .d (.list n cells)) (hy : ev env y = .d (.val (.slice none 0 0))) (hd : l5 env o.dst) (h : ∀ b : Bool, (b = true → cells = []) → OW ro P all rest (putO env o.dst (A0 b)) K) : OW ro P all (o :: rest) env K := by
 intro B w0 S0 φ a w Q hr hK
 have hxv := hr.ev x
 have hyv := hr.ev y
 rw [hx] at hxv; rw [hy] at hyv
 simp only [RepV, RepD] at hxv hyv
 obtain ⟨ad, cap, hxv, _, hc⟩ := hxv
 unfold wpListIn
 rw [if_pos (k7 hg _)]
 have hu := selOf_slice hs
 have hex : (execOp a.eval o).run P w = .ok (.value (.bool ad.isNone)) w := by
  have hgd : (eqGuard .eql t x y (.slice ad n cap) (.slice none 0 0)).run P w = .ok () w := by unfold eqGuard; split <;> simp
  have hb : (binOp .eql t (.slice ad n cap) (.slice none 0 0)).run P w = .ok (.bool ad.isNone) w := by
   simp only [binOp, Sem.run_bind, G5 w ad n cap hu, Result.andThen_ok, Sem.run_pure]
  simp only [execOp, ho, hxv, hyv, Sem.run_bind, hgd, hb, Result.andThen_ok, Sem.run_pure]
 refine B3 hex (h ad.isNone ?_ B w0 S0 φ _ w Q (hr.putO o.dst hd _ _ (by simp [A0, RepV, RepD])) hK)
 intro hb
 rcases hc with hc | ⟨b, o, rfl, _⟩
 · exact hc
 · simp at hb

theorem OW.toS {ro : Option Nat} {all l : List Oper} {K : Env → Prop} (T : List (Nat × V)) (O : List Ob) (h : ∀ K' : Env → Prop, K' ⟨env.nt, T, O, env.gs, env.th⟩ → OW ro P all l env K') (hK : K ⟨env.nt, T, O, env.gs, env.th⟩) : OW ro P all l env K := h K hK
theorem all_isValD_I (t : List Int) : (t.map I).all isValD = true := by rw [List.all_eq_true]; intro x hx; obtain ⟨z, _, rfl⟩ := List.mem_map.1 hx; rfl
theorem OW.opA {ro : Option Nat} {all rest : List Oper} {K : Env → Prop} {o : Oper} {j : Nat} {want g : Bool} (hg : o.guard = some (j, want)) (hgc : u7 (all.map (·.dst)) env.tmps (some (j, want)) = some g)
  (hc : g = true → (u3 P (env.under g) o).1) (hd : l5 env o.dst) (h : OW ro P all rest (putO env o.dst (.guarded g (u3 P (env.under g) o).2)) K) : OW ro P all (o :: rest) env K := by
 intro B w0 S0 φ a w Q hr hK
 have hw := o9 hr hg hgc
 unfold wpListIn
 rw [hw]
 cases g with
 | true =>
  rw [if_pos rfl]
  obtain ⟨v, w', h1, h2, h3⟩ := pureA_sound (hr.under rfl) (hc rfl)
  refine B3 h1 (h B w0 S0 φ _ w' Q ((hr.grow0 h2).putO o.dst hd _ v ?_) hK)
  simp only [RepV]
  exact ⟨fun _ => h3, fun h => (by cases h)⟩
 | false =>
  rw [if_neg (by simp)]
  refine ⟨fun _ _ => trivial, h B w0 S0 φ _ _ Q (hr.putO o.dst hd _ undef ?_) hK⟩
  simp only [RepV]
  exact ⟨fun h => (by cases h), fun _ => by trivial⟩
theorem OW.step {ro : Option Nat} {all rest : List Oper} {K : Env → Prop} {o : Oper} (hg : o.guard = none) (h : match y8 P env o with | (c, env') => c ∧ OW ro P all rest env' K) : OW ro P all (o :: rest) env K := by
 intro B w0 S0 φ a w Q hr hK
 unfold wpListIn
 rw [if_pos (k7 hg _)]
 exact stepF_sound h.1 B w0 S0 φ a w hr _ _ (fun φ' a' w' hr' => h.2 B w0 S0 φ' a' w' Q hr' hK) ro
theorem RetOK.nilOwn {sz : Nat} {e : TypeId} : RetOK env (.d (.val (.slice none 0 0))) (.own 0 0 0 sz) [([], e)] := by
 intro B w0 S0 φ a w hr u hu
 simp only [RepV, RepD] at hu
 refine ⟨fun _ => none, ?_, fun i ob h => ?_, fun i g _ h => (by cases h), fun i j g _ _ h => (by cases h)⟩
 · simp only [RepV]; rw [hu]; exact ⟨by simp, .inl ⟨none, by simp⟩⟩
 ·
  cases i with
  | zero => simp at h; subst h; exact .inl ⟨rfl, rfl⟩
  | succ i => simp at h
end
end Go.PW
