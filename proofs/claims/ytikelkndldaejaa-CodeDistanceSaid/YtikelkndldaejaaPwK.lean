/-
  That the machine does what 'stepF' says of one operation: appends, built-in functions; all operations together. For every program.
-/
import Derived.Test.YtikelkndldaejaaPwJ
set_option linter.all false
namespace Go.PW
open Go.RowKit

section
variable {P : Program} {B : Nat} {w0 : World} {S0 : Nat → Prop} {φ : Nat → Option Nat} {env : Env} {a : Act} {w : World}

theorem okDst_nt {env env' : Env} (h : env'.nt = env.nt) {d : Option Nat} (hd : okDst env d) : okDst env' d := by
  cases d with
  | none => trivial
  | some d => simp only [okDst] at hd ⊢; omega

theorem srcF_sound (h : Rel B w0 S0 φ env a w) {sz : Nat} {x : V} {v : Value} (hx : RepV w (Imm B S0 φ env.objs.length) φ env.objs.length x v) (hc : (srcF env.objs sz x).1) :
    ∃ ax c us, v = .slice ax (srcF env.objs sz x).2.1 c ∧ us.length = (srcF env.objs sz x).2.1 * sz ∧ RepVs w (Imm B S0 φ env.objs.length) φ env.objs.length (srcF env.objs sz x).2.2 us ∧
      (us = [] ∨ ∃ b o, ax = some ⟨b, o, none⟩ ∧ ∀ j u, us[j]? = some u → w.cell? ⟨b, o + j, none⟩ = some u) := by
  unfold srcF at hc ⊢
  split at hc
  · rename_i j off n sz'
    obtain ⟨rfl, hle⟩ := hc
    simp only [RepV] at hx
    obtain ⟨hj, ⟨ad, rfl, rfl, _⟩ | ⟨g, cap, cur, e, hg, rfl, hn, hm, hh, hroom⟩⟩ := hx
    · exact ⟨ad, 0, [], rfl, by simp, by simp [seg, RepVs], .inl rfl⟩
    · unfold cellsOf at hle ⊢
      have hob : ∃ ob, env.objs[j]? = some ob := ⟨env.objs[j], by simp [hj]⟩
      obtain ⟨ob, hob⟩ := hob
      simp only [hob] at hle ⊢
      rcases h.objs j ob hob with ⟨h0, _⟩ | ⟨g', cur', vals, rest, hg', hh', hcur, hv⟩
      · rw [hg] at h0; cases h0
      rw [hg] at hg'; cases hg'
      rw [hh] at hh'
      simp only [Option.some.injEq, Obj.cells.injEq, and_true] at hh'
      obtain ⟨rfl, _⟩ := hh'
      have hvl := RepVs.length _ _ hv
      refine ⟨_, _, seg vals off (n * sz'), rfl, ?_, hv.seg off (n * sz'), .inr ⟨g, off, rfl, fun k u hu => ?_⟩⟩
      · simp [seg]; omega
      · have hk : k < n * sz' := by
          have := (List.getElem?_eq_some_iff.1 hu).1
          simp only [seg, List.length_take] at this; omega
        rw [seg, List.getElem?_take, if_pos hk, List.getElem?_drop] at hu
        rw [cell_of_heap hh, ← Array.getElem?_toList, hcur, List.getElem?_append_left (by omega)]
        exact hu
  · rename_i n cells
    simp only [RepV, RepD] at hx
    obtain ⟨ad, cap, rfl, _, rfl | ⟨b, o, rfl, hr⟩⟩ := hx
    · exact ⟨_, _, [], rfl, by simpa using hc, by simp [RepVs], .inl rfl⟩
    · obtain ⟨vs, h1, h2⟩ := RepCells.vals _ _ _ hr
      exact ⟨_, _, vs, rfl, by rw [RepAll.length _ _ h1]; exact hc, h1.repVs, .inr ⟨b, o, rfl, h2⟩⟩
  · simp only [RepV, RepD] at hx
    subst hx
    exact ⟨none, 0, [], rfl, by simp, by simp [RepVs], .inl rfl⟩
  · exact hc.elim

theorem exec_builtin {o : Oper} {b : Builtin} {xs : Array Operand} {ts : Array TypeId} (ho : o.op = .call { callee := .builtin b, args := xs, argTypes := ts }) :
    ∃ cs, execOp a.eval o = builtin b ts o.type cs (xs.map a.eval) := by
  refine ⟨xs.map fun | .const _ => true | _ => false, ?_⟩
  simp only [execOp, ho, resolve, invoke, pure_bind]
  rfl

theorem appendF_sound {o : Oper} {t t' : TypeId} {s x : Operand} (ho : o.op = .call { callee := .builtin .append, args := #[s, x], argTypes := #[t, t'] })
    (hc : (appendF P env o.dst t t' (ev env s) (ev env x)).1) : Comes1 P o env (appendF P env o.dst t t' (ev env s) (ev env x)).2 := by
  have hex : ∀ (a : Act) (w : World) (v : Value) (w' : World), (Builtin.append_ #[t, t'] o.type #[a.eval s, a.eval x]).run P w = .ok v w' → (execOp a.eval o).run P w = .ok (.value v) w' := by
    intro a w v w' h
    obtain ⟨cs, h1⟩ := exec_builtin (a := a) ho
    rw [h1]
    simp [builtin, h]
  unfold appendF at hc ⊢
  split at hc
  · rename_i e he
    have hu := selOf_spec he
    split at hc
    · rename_i sz bytes z ht
      split at hc
      · rename_i i off n sz' hs
        split at hc
        · rename_i ob hi
          obtain ⟨⟨rfl, hsrc, rfl, rfl, hfull, hobe, hone, hsz, hb, hm⟩, hd⟩ := hc
          intro B w0 S0 φ a w hr K Q hK ro
          have hsv := hr.ev s
          rw [hs] at hsv
          obtain ⟨ax, c, us, hxv, hul, hes, hcells⟩ := srcF_sound hr (hr.ev x) hsrc
          obtain ⟨v', w', φ', hrun, hrel, hrep⟩ := hr.append hu ht hsv hi hfull hobe o.type hes (hes.allOne hone) hul ⟨ax, c, hxv, hcells⟩ hsz hb hm
          refine wp_value (hex a w v' w' hrun) (hK φ' _ _ ?_)
          have hlen : (appEnv env i ob (srcF env.objs sz' (ev env x)).2.2).objs.length = env.objs.length := by simp [appEnv]
          exact hrel.putO o.dst (okDst_nt (by exact rfl) hd) _ v' (by rw [hlen]; exact hrep)
        · exact hc.elim
      · rename_i hs
        obtain ⟨⟨rfl, hsrc, hone, hsz, hb, hm⟩, hd⟩ := hc
        intro B w0 S0 φ a w hr K Q hK ro
        have hsv := hr.ev s
        rw [hs] at hsv
        simp only [RepV, RepD] at hsv
        obtain ⟨ax, c, us, hxv, hul, hes, hcells⟩ := srcF_sound hr (hr.ev x) hsrc
        have hv := hr.virt e
        have htu := (Grows.refl w).turns hr none (fun g' e => by cases e)
        have hlen1 : ({ env with objs := env.objs ++ [⟨[], e⟩] } : Env).objs.length = env.objs.length + 1 := by simp
        have hes' : RepVs w (Imm B S0 (φnew φ env.objs.length none) ({ env with objs := env.objs ++ [⟨[], e⟩] } : Env).objs.length) (φnew φ env.objs.length none) ({ env with objs := env.objs ++ [⟨[], e⟩] } : Env).objs.length (srcF env.objs sz (ev env x)).2.2 us := by
          rw [hlen1]; exact RepVs.mono htu _ _ hes
        have hown : RepV w (Imm B S0 (φnew φ env.objs.length none) ({ env with objs := env.objs ++ [⟨[], e⟩] } : Env).objs.length) (φnew φ env.objs.length none) ({ env with objs := env.objs ++ [⟨[], e⟩] } : Env).objs.length (.own env.objs.length 0 0 sz) (a.eval s) := by
          rw [hlen1, hsv]; simp only [RepV]; exact ⟨by omega, .inl ⟨none, by simp⟩⟩
        obtain ⟨v', w', φ', hrun, hrel, hrep⟩ := hv.append hu ht hown (i := env.objs.length) (ob := ⟨[], e⟩) (by simp) (by simp) rfl o.type hes' (hes'.allOne hone) hul ⟨ax, c, hxv, hcells⟩ hsz (by simpa using hb) (by simpa using hm)
        refine wp_value (hex a w v' w' hrun) (hK φ' _ _ ?_)
        have hlen : (appEnv { env with objs := env.objs ++ [⟨[], e⟩] } env.objs.length ⟨[], e⟩ (srcF env.objs sz (ev env x)).2.2).objs.length = ({ env with objs := env.objs ++ [⟨[], e⟩] } : Env).objs.length := by simp [appEnv]
        exact hrel.putO o.dst (okDst_nt (by exact rfl) hd) _ v' (by rw [hlen]; simpa using hrep)
      · exact hc.elim
    · exact hc.elim
  · exact hc.elim

theorem builtinF_sound {o : Oper} {b : Builtin} {xs : Array Operand} {ts : Array TypeId} (ho : o.op = .call { callee := .builtin b, args := xs, argTypes := ts })
    (hc : (builtinF P env o.dst b ts.toList (xs.toList.map (ev env))).1) : Comes1 P o env (builtinF P env o.dst b ts.toList (xs.toList.map (ev env))).2 := by
  obtain ⟨xs⟩ := xs
  obtain ⟨tsl⟩ := ts
  simp only at hc ⊢
  unfold builtinF at hc ⊢
  split at hc
  · rename_i t x hx
    match xs, hx with
    | [x0], hx =>
      simp only [List.map_cons, List.map_nil, List.cons.injEq, and_true] at hx
      subst hx
      refine comes_pure hc fun h1 B w0 S0 φ a w hr => ?_
      obtain ⟨u, hu, hrep⟩ := lenF_sound (P := P) (ty := o.type) (hr.ev x0) h1
      refine ⟨u, ?_, hrep⟩
      obtain ⟨cs, hcs⟩ := exec_builtin (a := a) ho
      rw [hcs]
      simp [builtin, hu]
  · rename_i x y hx
    match xs, hx with
    | [x0, y0], hx =>
      simp only [List.map_cons, List.map_nil, List.cons.injEq, and_true] at hx
      obtain ⟨rfl, rfl⟩ := hx
      refine comes_pure hc fun h1 B w0 S0 φ a w hr => ?_
      obtain ⟨u, hu, hrep⟩ := minF_sound (P := P) (hr.ev x0) (hr.ev y0) h1
      refine ⟨u, ?_, hrep⟩
      obtain ⟨cs, hcs⟩ := exec_builtin (a := a) ho
      rw [hcs]
      simp [builtin, hu]
  · rename_i x y hx
    match xs, hx with
    | [x0, y0], hx =>
      simp only [List.map_cons, List.map_nil, List.cons.injEq, and_true] at hx
      obtain ⟨rfl, rfl⟩ := hx
      refine comes_pure hc fun h1 B w0 S0 φ a w hr => ?_
      obtain ⟨u, hu, hrep⟩ := maxF_sound (P := P) (hr.ev x0) (hr.ev y0) h1
      refine ⟨u, ?_, hrep⟩
      obtain ⟨cs, hcs⟩ := exec_builtin (a := a) ho
      rw [hcs]
      simp [builtin, hu]
  · rename_i t t' s x hx
    match xs, hx with
    | [x0, y0], hx =>
      simp only [List.map_cons, List.map_nil, List.cons.injEq, and_true] at hx
      obtain ⟨rfl, rfl⟩ := hx
      exact appendF_sound ho hc
  · exact hc.elim

/-- **One operation.** -/
theorem stepF_sound {o : Oper} (hc : (stepF P env o).1) : Comes1 P o env (stepF P env o).2 := by
  have hpure : (stepF P env o) = pureF env o.dst (opF P env o.op) → Comes1 P o env (stepF P env o).2 := by
    intro he
    rw [he] at hc ⊢
    exact comes_pure hc fun h1 B w0 S0 φ a w hr => opF_sound hr h1
  cases ho : o.op with
  | store t p v => simp only [stepF, ho] at hc ⊢; exact storeF_sound ho hc
  | box e x => simp only [stepF, ho] at hc ⊢; exact boxF_sound ho hc
  | alloc e => simp only [stepF, ho] at hc ⊢; exact allocF_sound ho hc
  | buildSlice t n parts => simp only [stepF, ho] at hc ⊢; exact buildSliceF_sound ho hc
  | makeSlice t l c => simp only [stepF, ho] at hc ⊢; exact makeSliceF_sound ho hc
  | build t parts => simp only [stepF, ho] at hc ⊢; exact comes_pure hc fun h1 B w0 S0 φ a w hr => buildF_sound ho hr h1
  | makeFunc fn first caps =>
    cases fn with
    | func f =>
      simp only [stepF, ho] at hc ⊢
      obtain ⟨hf, hd⟩ := hc
      intro B w0 S0 φ a w hr K Q hK ro
      have hf' : first = #[] := Array.toList_inj.1 (by simpa using hf)
      refine wp_value (v := .func (.func f) #[] (caps.map a.eval)) (by simp [execOp, ho, Instr.makeFunc, hf']) (hK φ _ _ (hr.putO o.dst hd _ _ ?_))
      simp only [RepV]
      exact ⟨caps.toList.map a.eval, by congr 1; apply Array.toList_inj.1; simp, hr.evs _⟩
    | _ => simp only [stepF, ho, pureF, opF, bad, false_and] at hc
  | call c =>
    obtain ⟨callee, args, argTypes⟩ := c
    cases callee with
    | builtin b => simp only [stepF, ho] at hc ⊢; exact builtinF_sound ho hc
    | _ => simp only [stepF, ho] at hc
  | _ => exact hpure (by simp only [stepF, ho])
end
end Go.PW
