import Derived.Test.YtbndgoeahoadlaaGreatDoorExE
import Derived.Test.YtbndgoeahoadlaaGreatDoorPwG5
import Derived.Test.YtbndgoeahoadlaaGreatDoorPwF4
set_option linter.all false
namespace Go.PW
open Go.RowKit

section
variable {ro : Option Nat} {P : Program} {all rest : List Oper} {env : Env} {K : Env → Prop} {o : Oper} {m : Md} {b : Base} {nt : Nat} {s s' : St} {ih : Task → Option Out} {tb : Tab}

theorem frzV_g : ∀ (vs : List V) (s : St), (frzV vs s).g = s.g
 | [], s => rfl
 | v :: vs, s => by
  have key : ∀ i, (if decide (s.g ≤ i) && (cellsOf s.O i).all isD then frzV vs (frzS s i) else frzV vs s).g = s.g := by
   intro i
   split
   · exact (frzV_g vs _).trans (frzS_g i)
   · exact frzV_g vs s
  cases v with
  | own i _ _ _ => exact key i
  | ptr i _ => exact key i
  | _ => exact frzV_g vs s
theorem preS_g (fo : Operand) (xs : List Operand) (s : St) : (preS tb s fo xs).g = s.g := by
 unfold preS
 split
 ·
  split
  · exact frzV_g _ _
  · rfl
 · rfl
theorem callS_g {fo : Operand} {xs : List Operand} (h : callS tb ih s o fo xs = some s') : s'.g = s.g := by
 unfold callS at h
 repeat' split at h
 all_goals first
  | (cases h; rfl)
  | (cases h; done)
theorem slowX_g (IH : ∀ t o, ih t = some o → Snd P t o) (h : slowX P tb ih m nt s o = some s') : s'.g = s.g := by
 unfold slowX at h
 simp only [] at h
 repeat' split at h
 all_goals first
  | (cases h; rfl)
  | (cases h; done)
  | exact (callS_g h).trans (preS_g _ _ s)
theorem opX_g (IH : ∀ t o, ih t = some o → Snd P t o) (h : opX P tb ih m nt s o = some s') : s'.g = s.g := by
 unfold opX at h
 split at h
 ·
  split at h
  · cases h; rfl
  · exact slowX_g IH h
 · cases h

theorem opsX_sound (IH : ∀ t o, ih t = some o → Snd P t o) (hb : Fits m b) : ∀ (l : List Oper) (s : St), opsX P tb ih m nt all l s = some s' → s'.g = s.g ∧ ∀ K : Env → Prop, K (mk b nt s') → OW b.ro P all l (mk b nt s) K
 | [], s, h => by
  simp only [opsX, Option.some.injEq] at h
  subst h
  exact ⟨rfl, fun K hK => OW.nil hK⟩
 | o :: rest, s, h => by
  unfold opsX at h
  split at h
  ·
   rename_i hg
   split at h
   ·
    rename_i s1 h1
    have r := opsX_sound IH hb rest s1 h
    refine ⟨r.1.trans (opX_g IH h1), fun K hK => ?_⟩
    exact OW.ung (guardX_w hb hg) (opX_sound (tb := tb) IH hb rfl h1 (r.2 K hK))
   · cases h
  ·
   rename_i hg
   split at h
   ·
    rename_i hd
    simp only [Bool.and_eq_true] at hd
    have r := opsX_sound IH hb rest _ h
    refine ⟨r.1, fun K hK => ?_⟩
    refine OW.skipG (guardX_w hb hg) (D9 hd.1 rfl) ?_
    have r2 := r.2 K hK
    exact (n8 (v := gF) hb hd.2 hd.1) ▸ r2
   · cases h
  · cases h

theorem Yields.pureT {ops : Array Oper} (hgc : ∀ j want, o.guard = some (j, want) → u7 (ops.toList.map (·.dst)) env.tmps (some (j, want)) = some true) (hc : (u3 P env o).1) (hd : l5 env o.dst) : Yields P ops o env.nt env.objs (get env.tmps) (u3 P env o).2 := by
 refine ⟨A7 hd, fun B w0 S0 φ a w hr => ?_⟩
 have hr' : Rel B w0 S0 φ { env with tmps := G2 (o.looksAt ops) env.tmps, gs := (0, []), th := (fun _ _ => True, true) } a w := RelF.toRel (by simpa [q3] using hr)
 refine .inl ⟨?_, .inl ?_⟩
 ·
  cases hg : o.guard with
  | none => exact k7 hg _
  | some gd =>
   obtain ⟨j, want⟩ := gd
   have hops : ops.toList.toArray = ops := by simp
   have hw := o9 (all := ops.toList) hr' hg (by rw [F6 hg]; exact hgc j want hg)
   rw [hops] at hw
   exact hw
 ·
  have e := pureA_congr (P := P) (o := o) (env := { env with tmps := G2 (o.looksAt ops) env.tmps, gs := (0, []), th := (fun _ _ => True, true) }) (env' := env) (fun x hx => w7 x hx env) rfl
  have := pureA_sound (P := P) hr' (o := o) (by rw [e]; exact hc)
  rw [e] at this
  exact this

theorem Yields.skipT {ops : Array Oper} {j : Nat} {want : Bool} (hg : o.guard = some (j, want)) (hgc : u7 (ops.toList.map (·.dst)) env.tmps (some (j, want)) = some false) (hd : l5 env o.dst) : Yields P ops o env.nt env.objs (get env.tmps) gF := by
 refine ⟨A7 hd, fun B w0 S0 φ a w hr => ?_⟩
 have hr' : Rel B w0 S0 φ { env with tmps := G2 (o.looksAt ops) env.tmps, gs := (0, []), th := (fun _ _ => True, true) } a w := RelF.toRel (by simpa [q3] using hr)
 have hops : ops.toList.toArray = ops := by simp
 have hw := o9 (all := ops.toList) hr' hg (by rw [F6 hg]; exact hgc)
 rw [hops] at hw
 exact .inr ⟨hw, by simp [gF, RepV]⟩

theorem Yields.callT {ops : Array Oper} {fo : Operand} {xs : Array Operand} {ts : Array TypeId} (ho : o.op = .call { callee := .value fo, args := xs, argTypes := ts }) (hgc : ∀ j want, o.guard = some (j, want) → u7 (ops.toList.map (·.dst)) env.tmps (some (j, want)) = some true)
  {f : FuncId} {caps : List V} (hf : E0 (ev env fo) = some (f, caps)) {x : D} (hc : CallV P env f (xs.toList.map (ev env) ++ caps) (.d x) []) (hd : l5 env o.dst) : Yields P ops o env.nt env.objs (get env.tmps) (.d x) := by
 refine ⟨A7 hd, fun B w0 S0 φ a w hr => ?_⟩
 have hr' : Rel B w0 S0 φ { env with tmps := G2 (o.looksAt ops) env.tmps, gs := (0, []), th := (fun _ _ => True, true) } a w := RelF.toRel (by simpa [q3] using hr)
 refine .inl ⟨?_, .inr ?_⟩
 ·
  cases hg : o.guard with
  | none => exact k7 hg _
  | some gd =>
   obtain ⟨j, want⟩ := gd
   have hops : ops.toList.toArray = ops := by simp
   have hw := o9 (all := ops.toList) hr' hg (by rw [F6 hg]; exact hgc j want hg)
   rw [hops] at hw
   exact hw
 ·
  have hmem : ∀ y, y = fo ∨ y ∈ xs.toList → y ∈ o.op.operands.toList := by
   intro y hy
   rw [ho]
   simp only [Op.operands, Call.operands, Array.toList_append, List.mem_append]
   rcases hy with rfl | hy
   · exact .inl (by simp)
   · exact .inr hy
  have e1 : ev { env with tmps := G2 (o.looksAt ops) env.tmps, gs := (0, []), th := (fun _ _ => True, true) } fo = ev env fo := w7 fo (hmem fo (.inl rfl)) env
  have e2 : xs.toList.map (ev { env with tmps := G2 (o.looksAt ops) env.tmps, gs := (0, []), th := (fun _ _ => True, true) }) = xs.toList.map (ev env) := List.map_congr_left fun y hy => w7 y (hmem y (.inr hy)) env
  have hcall : ∀ args w, (callFunc f args).run P w = .ok (.enter f args) w := by
   obtain ⟨k, _, h1, _⟩ := hc; exact h1.1
  obtain ⟨us, hex, hus⟩ := B9 hr' ho (by rw [e1]; exact hf) hcall
  rw [e2] at hus
  exact ⟨f, us.toArray, hex, CallV.sound0 (env := { env with tmps := G2 (o.looksAt ops) env.tmps, gs := (0, []), th := (fun _ _ => True, true) }) hc hr' hus⟩

theorem Yields.callF {ops : Array Oper} {fo : Operand} {xs : Array Operand} {ts : Array TypeId} (ho : o.op = .call { callee := .value fo, args := xs, argTypes := ts }) (hgc : ∀ j want, o.guard = some (j, want) → u7 (ops.toList.map (·.dst)) env.tmps (some (j, want)) = some true)
  {f : FuncId} {caps vs : List V} (hf : E0 (ev env fo) = some (f, caps)) (hvs : xs.toList.map (ev env) ++ caps = vs) {x : D} {k : Nat} (hc : CallF P f (vs.map (toD env.objs k)) x) (hok : ∀ v ∈ vs, okD env.objs k v) (hd : l5 env o.dst) : Yields P ops o env.nt env.objs (get env.tmps) (.d x) := by
 refine ⟨A7 hd, fun B w0 S0 φ a w hr => ?_⟩
 have hr' : Rel B w0 S0 φ { env with tmps := G2 (o.looksAt ops) env.tmps, gs := (0, []), th := (fun _ _ => True, true) } a w := RelF.toRel (by simpa [q3] using hr)
 refine .inl ⟨?_, .inr ?_⟩
 ·
  cases hg : o.guard with
  | none => exact k7 hg _
  | some gd =>
   obtain ⟨j, want⟩ := gd
   have hops : ops.toList.toArray = ops := by simp
   have hw := o9 (all := ops.toList) hr' hg (by rw [F6 hg]; exact hgc j want hg)
   rw [hops] at hw
   exact hw
 ·
  have hmem : ∀ y, y = fo ∨ y ∈ xs.toList → y ∈ o.op.operands.toList := by
   intro y hy
   rw [ho]
   simp only [Op.operands, Call.operands, Array.toList_append, List.mem_append]
   rcases hy with rfl | hy
   · exact .inl (by simp)
   · exact .inr hy
  have e1 : ev { env with tmps := G2 (o.looksAt ops) env.tmps, gs := (0, []), th := (fun _ _ => True, true) } fo = ev env fo := w7 fo (hmem fo (.inl rfl)) env
  have e2 : xs.toList.map (ev { env with tmps := G2 (o.looksAt ops) env.tmps, gs := (0, []), th := (fun _ _ => True, true) }) = xs.toList.map (ev env) := List.map_congr_left fun y hy => w7 y (hmem y (.inr hy)) env
  obtain ⟨us, hex, hus⟩ := B9 hr' ho (by rw [e1]; exact hf) hc.1
  rw [e2, hvs] at hus
  exact ⟨f, us.toArray, hex, CallF.sound (env := { env with tmps := G2 (o.looksAt ops) env.tmps, gs := (0, []), th := (fun _ _ => True, true) }) hc hok hr' hus⟩

theorem Yields.callX (IH : ∀ t o, ih t = some o → Snd P t o) {ops : Array Oper} {fo : Operand} {xs : Array Operand} {ts : Array TypeId} (ho : o.op = .call { callee := .value fo, args := xs, argTypes := ts }) (hgc : ∀ j want, o.guard = some (j, want) → u7 (ops.toList.map (·.dst)) env.tmps (some (j, want)) = some true)
  {f : FuncId} {caps vs : List V} (hf : E0 (ev env fo) = some (f, caps)) (hvs : xs.toList.map (ev env) ++ caps = vs) {x : D} (he : env.objs = s.O) (hc : PW.callX ih s f vs = some (.d x, [])) (hd : l5 env o.dst) : Yields P ops o env.nt env.objs (get env.tmps) (.d x) := by
 obtain ⟨h1, ⟨h2, h3⟩ | ⟨x', hx, _, h2⟩⟩ := callX_sound IH hc
 · exact Yields.callT ho hgc hf ⟨dep, by rw [hvs, he]; exact h1, by rw [hvs, he]; exact h2, by rw [hvs]; exact h3⟩ hd
 ·
  cases hx
  exact Yields.callF (k := dep) ho hgc hf hvs (by rw [he]; exact h2) (by rw [he]; exact h1) hd

theorem nilX_yields {ops : Array Oper} {E : Env} (hE : ∀ x ∈ o.op.operands.toList, ev env x = ev E x) (hgc : ∀ j want, o.guard = some (j, want) → u7 (ops.toList.map (·.dst)) env.tmps (some (j, want)) = some true) (hd : l5 env o.dst) {z : Bool} (h : nilX P E o = some z) : Yields P ops o env.nt env.objs (get env.tmps) (A0 z) := by
 unfold nilX at h
 split at h
 ·
  rename_i op t x y yt ho
  have hx : ev env x = ev E x := hE x (by rw [ho]; simp [Op.operands])
  have hy : ev env y = ev E y := hE y (by rw [ho]; simp [Op.operands])
  split at h
  ·
   rename_i hx1 hy1 hs1
   cases h
   exact F2 (z := false) ho (.inl rfl) hgc hs1 (by rw [hx, hx1]; exact fun _ _ _ _ _ h => rep_list1 h) (hy.trans hy1) hd
  ·
   rename_i hx1 hy1 hs1
   cases h
   exact F2 (z := false) ho (.inr rfl) hgc hs1 (by rw [hx, hx1]; exact fun _ _ _ _ _ h => rep_list1 h) (hy.trans hy1) hd
  ·
   rename_i hx1 hy1 hs1
   cases h
   exact F2 (z := false) ho (.inl rfl) hgc hs1 (by rw [hx, hx1]; exact fun _ _ _ _ _ h => rep_own1 h) (hy.trans hy1) hd
  ·
   rename_i hx1 hy1 hs1
   cases h
   exact F2 (z := false) ho (.inr rfl) hgc hs1 (by rw [hx, hx1]; exact fun _ _ _ _ _ h => rep_own1 h) (hy.trans hy1) hd
  ·
   rename_i hx1 hy1 hs1
   cases h
   exact F2 (z := true) ho (.inl rfl) hgc hs1 (by rw [hx, hx1]; exact fun _ _ _ _ _ h => rep_nil1 h) (hy.trans hy1) hd
  ·
   rename_i hx1 hy1 hs1
   cases h
   exact F2 (z := true) ho (.inr rfl) hgc hs1 (by rw [hx, hx1]; exact fun _ _ _ _ _ h => rep_nil1 h) (hy.trans hy1) hd
  · cases h
 · cases h

theorem s8 (IH : ∀ t o, ih t = some o → Snd P t o) (hb : Fits m b) {ops : Array Oper} (hz : no0 m s.y o = true) (hs : okSl nt o = true) (hgc : ∀ j want, o.guard = some (j, want) → u7 (ops.toList.map (·.dst)) (mk b nt s).tmps (some (j, want)) = some true) {r : V} (h : readX P ih nt s o = some r) : Yields P ops o nt s.O (get (mk b nt s).tmps) r := by
 have hd' : l5 (mk b nt s) o.dst := D9 (D4 hs) rfl
 have hop : ∀ x, x ∈ o.op.operands.toList → ev (mk b nt s) x = s.ev x := fun x hx => ev_mk hb (no0_opd hz x hx) (G7 hs x hx)
 unfold readX at h
 split at h
 ·
  rename_i v hv
  cases h
  have r := opQ_spec hv (env := mk b nt s) rfl hop
  have e := opQ_pureA hv (mk b nt s)
  have := Yields.pureT (P := P) (ops := ops) (env := mk b nt s) (o := o) hgc (by rw [e]; exact r.1) hd'
  rw [e, r.2] at this
  exact this
 ·
  unfold slowR at h
  split at h
  ·
   rename_i fo xs hv
   obtain ⟨xa, ts, ho, hxs⟩ := valCall_spec hv
   have hfo : ev (mk b nt s) fo = s.ev fo := hop fo (by rw [ho]; simp [Op.operands, Call.operands])
   have hxe : xa.toList.map (ev (mk b nt s)) = xs.map s.ev := by
    rw [hxs]
    refine List.map_congr_left fun x hx => hop x ?_
    rw [ho, ← hxs] at *
    simp only [Op.operands, Call.operands, Array.toList_append, List.mem_append]
    exact .inr hx
   split at h
   ·
    rename_i f caps hcl
    split at h
    ·
     rename_i x hc
     cases h
     exact Yields.callX (env := mk b nt s) IH ho hgc (by rw [hfo]; exact hcl) (by rw [hxe]) rfl hc hd'
    · cases h
   · cases h
  ·
   simp only [] at h
   split at h
   ·
    rename_i z hz
    cases h
    exact nilX_yields (env := mk b nt s) (E := s.mini nt o.op.operands.toList) (fun x hx => (hop x hx).trans (ev_mini hx).symm) hgc hd' hz
   split at h
   ·
    rename_i hc
    cases h
    have e : u3 P (mk b nt s) o = u3 P (s.mini nt o.op.operands.toList) o := pureA_congr (fun x hx => (hop x hx).trans (ev_mini hx).symm) rfl
    have := Yields.pureT (P := P) (ops := ops) (env := mk b nt s) (o := o) hgc (by rw [e]; exact hc) hd'
    rw [e] at this
    exact this
   · cases h

theorem frontX_sound (IH : ∀ t o, ih t = some o → Snd P t o) (hb : Fits m b) : ∀ (l : List Oper) (s : St), frontX P ih m nt all l s = some s' → s'.g = s.g ∧ ∀ K : Env → Prop, K (mk b nt s') → FW P all.toArray l (mk b nt s) K
 | [], s, h => by
  simp only [frontX, Option.some.injEq] at h
  subst h
  exact ⟨rfl, fun K hK => hK⟩
 | o :: rest, s, h => by
  unfold frontX at h
  split at h
  ·
   rename_i hz
   simp only [Bool.and_eq_true] at hz
   obtain ⟨hs, hz⟩ := hz
   have hd := D4 hs
   have hd' : l5 (mk b nt s) o.dst := D9 hd rfl
   have hall : all.toArray.toList = all := by simp
   split at h
   ·
    rename_i hg
    have hgc := guardX_C (nt := nt) hb hg
    split at h
    ·
     rename_i v hv
     have r := frontX_sound IH hb rest _ h
     refine ⟨r.1, fun K hK => ⟨v, s8 IH hb hz hs (by rw [hall]; exact hgc) hv, ?_⟩⟩
     have r2 := r.2 K hK
     exact (n8 hb (r8 hz) hd) ▸ r2
    · cases h
   ·
    rename_i hg
    have r := frontX_sound IH hb rest _ h
    refine ⟨r.1, fun K hK => ⟨gF, ?_, ?_⟩⟩
    ·
     cases hgd : o.guard with
     | none => simp [guardX, hgd] at hg
     | some gd =>
      obtain ⟨j, want⟩ := gd
      exact Yields.skipT hgd (by rw [hall]; exact guardX_C hb hg j want hgd) hd'
    ·
     have r2 := r.2 K hK
     exact (n8 (v := gF) hb (r8 hz) hd) ▸ r2
   · cases h
  · cases h

theorem tailOf_spec {tls : List (Nat × Nat × Nat)} {id : Nat} {ops : List Oper} {n : Nat} (h : tailOf tls id ops = some n) : Region.lexTailB .any ops.toArray n = true := by
 unfold tailOf at h
 split at h
 ·
  rename_i k hk
  cases h
  have := List.find?_some hk
  exact this
 ·
  have := List.find?_some h
  exact this

theorem opsX_g (IH : ∀ t o, ih t = some o → Snd P t o) : ∀ (l : List Oper) (s : St), opsX P tb ih m nt all l s = some s' → s'.g = s.g
 | [], s, h => by simp only [opsX, Option.some.injEq] at h; rw [h]
 | o :: rest, s, h => by
  unfold opsX at h
  split at h
  ·
   split at h
   ·
    rename_i s1 h1
    exact (opsX_g IH rest s1 h).trans (opX_g IH h1)
   · cases h
  ·
   split at h
   ·
    have r := opsX_g IH rest _ h
    exact r
   · cases h
  · cases h
theorem frontX_g : ∀ (l : List Oper) (s : St), frontX P ih m nt all l s = some s' → s'.g = s.g
 | [], s, h => by simp only [frontX, Option.some.injEq] at h; rw [h]
 | o :: rest, s, h => by
  unfold frontX at h
  repeat' split at h
  all_goals first
   | (have r := frontX_g rest _ h; exact r)
   | (cases h; done)
theorem endsB_or {e : Exit} (h : endsB e = true) : e = .normal ∨ e = .ret := by
 cases e <;> simp_all [endsB]

theorem resV_mk (hz : b.it = none) {rs : List ResultVar} (hs : (resOps rs).all (slB nt) = true) : resV P rs (mk b nt s) = resV P rs (s.mini nt (resOps rs)) := by
 have hg : ∀ t, Operand.tmp t ∈ resOps rs → get (mk b nt s).tmps t = get (s.mini nt (resOps rs)).tmps t := by
  intro t ht
  have h1 : ev (s.mini nt (resOps rs)) (.tmp t) = s.ev (.tmp t) := ev_mini ht
  have h2 := slB_t (List.all_eq_true.1 hs _ ht)
  simp only [ev, St.ev] at h1
  rw [h1]
  simp only [mk]
  rw [s6, if_pos h2]
  exact slot_out (.inl hz)
 have h1 : ∀ x ∈ rs, E4 P (mk b nt s) x = E4 P (s.mini nt (resOps rs)) x := by
  intro x hx
  cases x with
  | tmp t => simp only [E4, hg t (List.mem_map.2 ⟨_, hx, rfl⟩)]
  | cell a t => simp only [E4, hg a (List.mem_map.2 ⟨_, hx, rfl⟩)]; rfl
 generalize s.mini nt (resOps rs) = E at h1
 match rs, h1 with
 | [], _ => rfl
 | [x], h1 => simp only [resV, h1 x (by simp)]
 | [x, y], h1 => simp only [resV, h1 x (by simp), h1 y (by simp)]
 | [x, y, z], h1 => simp only [resV, h1 x (by simp), h1 y (by simp), h1 z (by simp)]
 | _ :: _ :: _ :: _ :: _, _ => rfl

end
end Go.PW

namespace Go.PW
open Go.RowKit

theorem sameX_eq {x y : Value} (h : sameX x y = true) : x = y := by
 unfold sameX at h
 split at h
 · simp only [Bool.and_eq_true, decide_eq_true_eq] at h; rw [h.1, h.2]
 · rw [eq_of_beq h]
 ·
  rename_i a b
  obtain ⟨⟨a⟩⟩ := a
  obtain ⟨⟨b⟩⟩ := b
  simp only [decide_eq_true_eq] at h
  rw [h]
 · rfl
 · rfl
 · rfl
 · cases h
mutual
theorem sameD_eq : ∀ (x y : D), sameD x y = true → x = y
 | .val x, y, h => by
  cases y <;> simp only [sameD] at h <;> first | (rw [sameX_eq h]) | cases h
 | .list n c, y, h => by
  cases y <;> simp only [sameD, Bool.and_eq_true, beq_iff_eq] at h <;> first | (rw [h.1, sameDs_eq _ _ h.2]) | cases h
 | .ref c, y, h => by
  cases y <;> simp only [sameD] at h <;> first | (rw [sameDs_eq _ _ h]) | cases h
 | .agg c, y, h => by
  cases y <;> simp only [sameD] at h <;> first | (rw [sameDs_eq _ _ h]) | cases h
 | .clo f c, y, h => by
  cases y <;> simp only [sameD, Bool.and_eq_true, beq_iff_eq] at h <;> first | (rw [h.1, sameDs_eq _ _ h.2]) | cases h
 | .tup c, y, h => by
  cases y <;> simp only [sameD] at h <;> first | (rw [sameDs_eq _ _ h]) | cases h
theorem sameDs_eq : ∀ (xs ys : List D), sameD.sameDs xs ys = true → xs = ys
 | [], ys, h => by cases ys <;> simp only [sameD.sameDs] at h <;> first | rfl | cases h
 | x :: xs, ys, h => by
  cases ys with
  | nil => simp [sameD.sameDs] at h
  | cons y ys => simp only [sameD.sameDs, Bool.and_eq_true] at h; rw [sameD_eq x y h.1, sameDs_eq xs ys h.2]
end
mutual
theorem sameV_eq : ∀ (x y : V), sameV x y = true → x = y
 | .d x, y, h => by
  cases y <;> simp only [sameV] at h <;> first | (rw [sameD_eq _ _ h]) | cases h
 | .own i o n z, y, h => by
  cases y <;> simp only [sameV, Bool.and_eq_true, beq_iff_eq] at h <;> first | (obtain ⟨⟨⟨h1, h2⟩, h3⟩, h4⟩ := h; subst h1 h2 h3 h4; rfl) | cases h
 | .ptr i o, y, h => by
  cases y <;> simp only [sameV, Bool.and_eq_true, beq_iff_eq] at h <;> first | (rw [h.1, h.2]) | cases h
 | .agg c, y, h => by
  cases y <;> simp only [sameV] at h <;> first | (rw [sameVs_eq _ _ h]) | cases h
 | .clo f c, y, h => by
  cases y <;> simp only [sameV, Bool.and_eq_true, beq_iff_eq] at h <;> first | (rw [h.1, sameVs_eq _ _ h.2]) | cases h
 | .tup c, y, h => by
  cases y <;> simp only [sameV] at h <;> first | (rw [sameVs_eq _ _ h]) | cases h
 | .guarded a r, y, h => by
  cases y <;> simp only [sameV, Bool.and_eq_true, beq_iff_eq] at h <;> first | (rw [h.1, sameV_eq _ _ h.2]) | cases h
 | .dead, y, h => by cases y <;> simp only [sameV] at h <;> first | rfl | cases h
 | .slf i, y, h => by
  cases y <;> simp only [sameV, beq_iff_eq] at h <;> first | (rw [h]) | cases h
 | .emp, y, h => by cases y <;> simp only [sameV] at h <;> first | rfl | cases h
 | .bnd f x, y, h => by cases y <;> simp only [sameV] at h <;> first | rfl | cases h
theorem sameVs_eq : ∀ (xs ys : List V), sameV.sameVs xs ys = true → xs = ys
 | [], ys, h => by cases ys <;> simp only [sameV.sameVs] at h <;> first | rfl | cases h
 | x :: xs, ys, h => by
  cases ys with
  | nil => simp [sameV.sameVs] at h
  | cons y ys => simp only [sameV.sameVs, Bool.and_eq_true] at h; rw [sameV_eq x y h.1, sameVs_eq xs ys h.2]
end
theorem sameOs_eq : ∀ (xs ys : List Ob), sameOs xs ys = true → xs = ys
 | [], ys, h => by cases ys <;> simp only [sameOs] at h <;> first | rfl | cases h
 | ⟨c, e⟩ :: xs, ys, h => by
  cases ys with
  | nil => simp [sameOs] at h
  | cons y ys =>
   obtain ⟨c', e'⟩ := y
   simp only [sameOs, Bool.and_eq_true, beq_iff_eq] at h
   obtain ⟨⟨h1, h2⟩, h3⟩ := h
   subst h1
   rw [sameVs_eq _ _ h2, sameOs_eq xs ys h3]

mutual
theorem keepsB_eq (b : Nat) : ∀ v : V, keepsB b v = true → v.kill b = v
 | .d _, _ => rfl
 | .own j _ _ _, h => by simp only [keepsB, bne_iff_ne] at h; simp only [V.kill, if_neg h]
 | .ptr j _, h => by simp only [keepsB, bne_iff_ne] at h; simp only [V.kill, if_neg h]
 | .slf j, h => by simp only [keepsB, bne_iff_ne] at h; simp only [V.kill, if_neg h]
 | .agg vs, h => by simp only [keepsB] at h; simp only [V.kill, keepsBs_eq b vs h]
 | .clo f vs, h => by simp only [keepsB] at h; simp only [V.kill, keepsBs_eq b vs h]
 | .tup vs, h => by simp only [keepsB] at h; simp only [V.kill, keepsBs_eq b vs h]
 | .guarded c r, h => by simp only [keepsB] at h; simp only [V.kill, keepsB_eq b r h]
 | .dead, _ => rfl
 | .emp, _ => rfl
 | .bnd .., _ => rfl
theorem keepsBs_eq (b : Nat) : ∀ vs : List V, keepsB.keepsBs b vs = true → V.kill.kills b vs = vs
 | [], _ => rfl
 | v :: vs, h => by simp only [keepsB.keepsBs, Bool.and_eq_true] at h; simp only [V.kill.kills, keepsB_eq b v h.1, keepsBs_eq b vs h.2]
end
theorem keepsO_eq {kb : Option Nat} {v : V} (h : keepsO kb v = true) : killO kb v = v := by
 cases kb with
 | none => rfl
 | some b => exact keepsB_eq b v h
theorem killO_dead (kb : Option Nat) : killO kb .dead = .dead := by cases kb <;> rfl

theorem cellsOf_ext {O : List Ob} {x : Ob} {i : Nat} (h : i < O.length) : cellsOf (O ++ [x]) i = cellsOf O i := by
 simp only [cellsOf, List.getElem?_append_left h]
theorem ext_both {O : List Ob} {x : Ob} : ∀ (k : Nat) (v : V), okB O k v = true → okB (O ++ [x]) k v = true ∧ toD (O ++ [x]) k v = toD O k v := by
 intro k
 induction k with
 | zero => intro v h; cases v <;> simp_all [okB, toD]
 | succ k ih =>
  have hl : ∀ l : List V, l.all (okB O k) = true → l.all (okB (O ++ [x]) k) = true ∧ l.map (toD (O ++ [x]) k) = l.map (toD O k) := fun l hl => by
   rw [List.all_eq_true] at hl ⊢
   exact ⟨fun v hv => (ih v (hl v hv)).1, List.map_congr_left fun v hv => (ih v (hl v hv)).2⟩
  intro v h
  cases v with
  | d x => exact ⟨rfl, by simp only [toD]⟩
  | own i off n sz =>
   simp only [okB, Bool.and_eq_true, decide_eq_true_eq] at h
   obtain ⟨⟨h0, h1⟩, h2⟩ := h
   obtain ⟨h3, h4⟩ := hl _ h2
   simp only [okB, toD, cellsOf_ext h0, Bool.and_eq_true, decide_eq_true_eq, List.length_append, h4]
   exact ⟨⟨⟨by omega, h1⟩, h3⟩, trivial⟩
  | ptr i off =>
   simp only [okB, Bool.and_eq_true, decide_eq_true_eq] at h
   obtain ⟨h0, h2⟩ := h
   obtain ⟨h3, h4⟩ := hl _ h2
   simp only [okB, toD, cellsOf_ext h0, Bool.and_eq_true, decide_eq_true_eq, List.length_append, h4]
   exact ⟨⟨by omega, h3⟩, trivial⟩
  | clo f caps => simp only [okB] at h; obtain ⟨h3, h4⟩ := hl _ h; simp only [okB, toD, h4]; exact ⟨h3, trivial⟩
  | agg vs => simp only [okB] at h; obtain ⟨h3, h4⟩ := hl _ h; simp only [okB, toD, h4]; exact ⟨h3, trivial⟩
  | tup vs => simp only [okB] at h; obtain ⟨h3, h4⟩ := hl _ h; simp only [okB, toD, h4]; exact ⟨h3, trivial⟩
  | _ => simp [okB] at h
theorem d_both {O O' : List Ob} (k : Nat) (v : V) (h : isD v = true) : okB O k v = true ∧ toD O k v = toD O' k v := by
 cases v with
 | d x => exact ⟨by cases k <;> rfl, by cases k <;> rfl⟩
 | _ => simp [isD] at h

section
variable {ro : Option Nat} {P : Program} {all rest : List Oper} {env : Env} {K : Env → Prop} {o : Oper} {m : Md} {b : Base} {nt : Nat} {s s' : St} {ih : Task → Option Out} {tb : Tab}

theorem callX_same {O1 : List Ob} {f : FuncId} {vs : List V} {r : V} {obs : Obs} (h : callX ih s f vs = some (r, obs)) (he : vs.all (okB s.O dep) = true → ∀ v ∈ vs, okB O1 dep v = true ∧ toD O1 dep v = toD s.O dep v) : callX ih { s with O := O1 } f vs = some (r, obs) := by
 unfold callX at h ⊢
 split at h
 ·
  rename_i hok
  have h1 : vs.all (okB O1 dep) = true := List.all_eq_true.2 fun v hv => (he hok v hv).1
  have h2 : vs.map (toD O1 dep) = vs.map (toD s.O dep) := List.map_congr_left fun v hv => (he hok v hv).2
  simp only [h1, if_true, h2]
  exact h
 · cases h

theorem pureA_objs {O : List Ob} (h : noMem o = true) : u3 P { env with objs := O } o = u3 P env o := by
 obtain ⟨dst, op, ty, pos, after, guard⟩ := o
 cases op with
 | load t x => simp [noMem] at h
 | makeFunc fn a c => cases fn <;> rfl
 | slice t x lo hi mx => cases lo <;> cases hi <;> cases mx <;> rfl
 | _ => rfl

theorem u9 {e : Nat} : v6 o e = true ↔ ∃ x ∈ o.after, Region.binds .any x = true ∧ x.on = e := by
 simp only [v6, List.any_eq_true, Bool.and_eq_true, beq_iff_eq]
 constructor
 · rintro ⟨x, hx, h⟩; exact ⟨x, Array.mem_toList_iff.1 hx, h⟩
 · rintro ⟨x, hx, h⟩; exact ⟨x, Array.mem_toList_iff.2 hx, h⟩

variable {ops : Array Oper} {g1 : Nat} {os : Nat → List Ob} {κ : Nat → V → V}

theorem FWX.read {i e : Nat} {oe : Oper} {l : List Oper} {r : V} (hie : i ≠ e) (hoe : ops[e]? = some oe) (hd : l5 env o.dst)
  (hk : v6 oe i = true ∨ v6 o e = true ∨ (κ 0 r = r ∧ ∀ t, (o.looksAt ops).contains t = true → κ 0 (get env.tmps t) = get env.tmps t))
  (hy0 : v6 o e = false → Yields P ops o env.nt (os 0) (get env.tmps) r) (hy1 : v6 oe i = false → Yields P ops o env.nt (os 1) (get env.tmps) r)
  (h : FWX P ops g1 os κ [e] l (i + 1) (putO env o.dst r) K) : FWX P ops g1 os κ [e] (o :: l) i env K := by
 have hic : [e].idxOf? i = none := by
  simp only [List.idxOf?_eq_none_iff, List.mem_singleton]; exact hie
 refine ⟨r, ?_, by rw [hic]; exact h⟩
 unfold YB
 rw [hic]
 refine ⟨⟨A7 hd, fun q c oc hq hc h3 h4 => ?_⟩, fun j hj hdj hu => ?_⟩
 ·
  cases q with
  | succ q => simp at hq
  | zero =>
   simp only [List.getElem?_cons_zero, Option.some.injEq] at hq
   subst hq
   rw [hoe] at hc; cases hc
   rcases hk with hk | hk | hk
   · obtain ⟨x, hx, hb, ho⟩ := u9.1 hk; exact absurd ho (h3 x hx hb)
   · obtain ⟨x, hx, hb, ho⟩ := u9.1 hk; exact absurd ho (h4 x hx hb)
   · exact hk
 ·
  simp only [List.length_cons, List.length_nil] at hj
  rcases Nat.lt_or_ge j 1 with hj1 | hj1
  ·
   have : j = 0 := by omega
   subst this
   refine hy0 ?_
   cases hb : v6 o e with
   | false => rfl
   | true =>
    obtain ⟨x, hx, hb, ho⟩ := u9.1 hb
    exact absurd (hdj 0 x hx hb (by rw [ho]; rfl)) (by omega)
  ·
   have : j = 1 := by omega
   subst this
   refine hy1 ?_
   cases hb : v6 oe i with
   | false => rfl
   | true =>
    obtain ⟨x, hx, hb, ho⟩ := u9.1 hb
    exact absurd (hu 0 e oe x rfl hoe hx hb ho) (by omega)

end
end Go.PW

namespace Go.PW
open Go.RowKit
section
variable {ro : Option Nat} {P : Program} {all rest : List Oper} {env : Env} {K : Env → Prop} {o : Oper} {m : Md} {b : Base} {nt : Nat} {s s' : St} {ih : Task → Option Out} {tb : Tab}
variable {ops : Array Oper} {g1 : Nat} {os : Nat → List Ob} {κ : Nat → V → V} {cs : List Nat}

theorem killMap_id {g : V → V} (hg : ∀ v, g v = v) : C8 g env = env := by
 have : (env.tmps.map fun x => (x.1, g x.2)) = env.tmps := by
  conv => rhs; rw [← List.map_id env.tmps]
  exact List.map_congr_left fun x _ => by rw [hg]; rfl
 simp only [C8, this]

theorem FWX.alloc {i q d : Nat} {l : List Oper} {e : TypeId} {sz bytes : Nat} {z : List Value} (hq : cs.idxOf? i = some q) (hoi : ops[i]? = some o) (ho : o.op = .alloc e) (hg : o.guard = none) (hdn : o.dst = some d) (hdl : d < env.nt) (hκ : ∀ v, κ q v = v)
  (ht : F3 P e = some (sz, bytes, z)) (h2 : os q ++ [⟨z.map fun x => .d (.val x), e⟩] = os (q + 1))
  (h : FWX P ops g1 os κ cs l (i + 1) (putO env o.dst (.ptr (os q).length 0)) K) : FWX P ops g1 os κ cs (o :: l) i env K := by
 refine FWX.step (.ptr (os q).length 0) hq hoi hg (by rw [hdn]; exact hdl) (FreeX.same hκ) (fun T gs th _ _ => ?_) (by rw [killMap_id hκ]; exact h)
 have hstep : y8 P ⟨env.nt, T, os q, gs, th⟩ o = allocF P ⟨env.nt, T, os q, gs, th⟩ (some d) e := by simp only [y8, ho, hdn]
 rw [hstep]
 simp only [allocF, ht]
 refine ⟨hdl, put T d (.ptr (os q).length 0), ?_, ?_⟩
 · simp only [newOb, putO, Env.put, h2]
 · rw [get_put', hdn]; congr 1; funext s; rw [hκ]

theorem FWX.app {i q d : Nat} {l : List Oper} {t t' : TypeId} {sv x : Operand} {env0 : Env} (b : Nat) (hq : cs.idxOf? i = some q) (hoi : ops[i]? = some o) (ho : o.op = .call { callee := .builtin .append, args := #[sv, x], argTypes := #[t, t'] }) (hg : o.guard = none) (hdn : o.dst = some d) (hdl : d < env.nt)
  (hκ : κ q = V.kill b) (hg1 : g1 ≤ b) {r : V} (hfree : FreeX ops (V.kill b) i (get env.tmps)) (hs : (∃ off n sz, ev env sv = .own b off n sz) ∨ ((∀ i off n sz, ev env sv ≠ .own i off n sz) ∧ b = (os q).length))
  (h0 : env0.objs = os q) (h1 : (q4 P env0 (some d) t t' (ev env sv) (ev env x)).1) (h2 : (q4 P env0 (some d) t t' (ev env sv) (ev env x)).2.objs = os (q + 1)) (h3 : get (q4 P env0 (some d) t t' (ev env sv) (ev env x)).2.tmps d = r)
  (h : FWX P ops g1 os κ cs l (i + 1) (putO (C8 (V.kill b) env) o.dst r) K) : FWX P ops g1 os κ cs (o :: l) i env K := by
 refine FWX.step r hq hoi hg (by rw [hdn]; exact hdl) (by rw [hκ]; exact hfree) (fun T gs th hgs hev => ?_) (by rw [hκ]; exact h)
 have e1 := hev sv (by rw [ho]; simp [Op.operands, Call.operands])
 have e2 := hev x (by rw [ho]; simp [Op.operands, Call.operands])
 have hstep : y8 P ⟨env.nt, T, os q, gs, th⟩ o = q4 P ⟨env.nt, T, os q, gs, th⟩ (some d) t t' (ev env sv) (ev env x) := by
  simp only [y8, ho, hdn, E9, List.map_cons, List.map_nil, e1, e2]
 rw [hstep]
 generalize ev env sv = v at hs h1 h2 h3 ⊢
 unfold q4 at h1 h2 h3 ⊢
 cases hse : C4 P t with
 | none => simp only [hse] at h1
 | some e =>
  cases hte : F3 P e with
  | none => simp only [hse, hte] at h1
  | some y =>
   obtain ⟨sz, by_, z⟩ := y
   simp only [hse, hte] at h1 h2 h3 ⊢
   rcases hs with ⟨off, n, sz', rfl⟩ | ⟨hno, rfl⟩
   ·
    simp only [h0] at h1 h2 h3 ⊢
    cases hob : (os q)[b]? with
    | none => simp only [hob] at h1
    | some ob =>
     simp only [hob] at h1 h2 h3 ⊢
     have hr : r = V.own b 0 (n + (m6 P (os q) t t' sz z (ev env x)).2.1) sz := by
      rw [← h3]; simp only [putO, Env.put, get_put, if_true]
     refine ⟨⟨h1.1, hdl⟩, put (T.map fun x => (x.1, x.2.kill b)) d r, ?_, ?_⟩
     ·
      have h4 : B6 env0.objs b ob (m6 P (os q) t t' sz z (ev env x)).2.2 = os (q + 1) := h2
      rw [appEnv_le (show (⟨env.nt, T, os q, gs, th⟩ : Env).gs.1 ≤ b from by rw [hgs]; exact hg1)]
      simp only [putO, Env.put, hr]
      rw [← h4, h0]
     ·
      rw [get_put', hdn, hκ]
      congr 1
      funext t
      exact get_map_kill T b t
   ·
    split at h1
    · exact absurd rfl (hno _ _ _ _)
    ·
     simp only [h0] at h1 h2 h3 ⊢
     have hr : r = V.own (os q).length 0 (m6 P (os q) t t' sz z (ev env x)).2.1 sz := by
      rw [← h3]; simp only [putO, Env.put, get_put, if_true]
     refine ⟨⟨h1.1, hdl⟩, put (T.map fun x => (x.1, x.2.kill (os q).length)) d r, ?_, ?_⟩
     ·
      have h4 : B6 (os q ++ [⟨[], e⟩]) (os q).length ⟨[], e⟩ (m6 P (os q) t t' sz z (ev env x)).2.2 = os (q + 1) := by
       rw [← h2]; simp only [putO, Env.put, C6]
      rw [appEnv_le (show ({ nt := env.nt, tmps := T, objs := os q ++ [⟨[], e⟩], gs := gs, th := th } : Env).gs.1 ≤ (os q).length from by rw [show ({ nt := env.nt, tmps := T, objs := os q ++ [⟨[], e⟩], gs := gs, th := th } : Env).gs.1 = gs.1 from rfl, hgs]; exact hg1)]
      simp only [putO, Env.put, hr, h4]
     ·
      rw [get_put', hdn, hκ]
      congr 1
      funext t
      exact get_map_kill T _ t
    · exact h1.elim

theorem look_keep (hb : Fits m b) {kb : Option Nat} {oj : Oper} (h : lookB m ops kb s oj = true) : ∀ t, (oj.looksAt ops).contains t = true → killO kb (get (mk b nt s).tmps t) = get (mk b nt s).tmps t := by
 intro t ht
 simp only [mk]
 rw [s6]
 split
 ·
  cases kb with
  | none => rfl
  | some kb =>
   have h1 := List.all_eq_true.1 h t (by simpa using ht)
   rw [Bool.or_eq_true] at h1
   unfold Base.slot
   split
   ·
    rename_i hz
    rcases h1 with h1 | h1
    ·
     cases m with
     | iter c => obtain ⟨lc, m0, G0, hF⟩ := hb; rw [hF.it] at hz; cases hz
     | _ => simp [inY, no0x] at h1
    · exact keepsB_eq _ _ h1
   ·
    rename_i L hL
    split
    · rfl
    ·
     rename_i hy
     rcases h1 with h1 | h1
     ·
      rcases hb.zz with hz | ⟨c, L', rfl, _⟩
      · rw [hL] at hz; cases hz
      ·
       simp [inY, no0x] at h1
       exact absurd h1 (by simpa using hy)
     · exact keepsB_eq _ _ h1
 · exact killO_dead _

theorem effX_ext {R : EffR} (h : effX P nt s o = some R) (he : isExt o = true) : ∃ x, R.O1 = s.O ++ [x] := by
 unfold effX at h
 split at h
 · rename_i ho _; simp [isExt, ho] at he
 ·
  split at h
  · cases h; exact ⟨_, rfl⟩
  · cases h
 ·
  split at h
  · cases h; exact ⟨_, rfl⟩
  · cases h
 · rename_i ho _; simp [isExt, ho] at he
 · cases h

theorem frontE_O {kb : Option Nat} {O1 : List Ob} {e : Nat} {oe : Oper} {s2 : St} {Rf : EffR} : ∀ (l : List Oper) (i : Nat) (s : St) (R : Option EffR), frontE P ih m nt ops kb O1 e oe l i s R = some (s2, Rf) →
  s2.g = s.g ∧ s2.O = s.O ∧ ((∀ R', R = some R' → R'.O1 = O1) → Rf.O1 = O1)
 | [], i, s, some R, h => by
  simp only [frontE, Option.some.injEq, Prod.mk.injEq] at h
  obtain ⟨rfl, rfl⟩ := h
  exact ⟨rfl, rfl, fun h => h _ rfl⟩
 | [], i, s, none, h => by simp [frontE] at h
 | o :: rest, i, s, R, h => by
  unfold frontE at h
  split at h
  ·
   split at h
   ·
    split at h
    ·
     split at h
     ·
      rename_i hc
      have r := frontE_O rest _ _ _ h
      refine ⟨r.1, r.2.1, fun _ => r.2.2 fun R' hR => ?_⟩
      cases hR
      simp only [Bool.and_eq_true] at hc
      exact sameOs_eq _ _ hc.1.2
     · cases h
    · cases h
   ·
    split at h
    ·
     split at h
     · (have r := frontE_O rest _ _ _ h; exact r)
     · cases h
    ·
     split at h
     ·
      split at h
      ·
       split at h
       · (have r := frontE_O rest _ _ _ h; exact r)
       · cases h
      · cases h
     ·
      split at h
      ·
       split at h
       · (have r := frontE_O rest _ _ _ h; exact r)
       · cases h
      · cases h
  · cases h
end
end Go.PW

namespace Go.PW
open Go.RowKit
section
variable {P : Program} {K : Env → Prop} {m : Md} {b : Base} {nt : Nat} {s s' : St} {ih : Task → Option Out} {tb : Tab} {ops : Array Oper} {all : List Oper}

def osE (O0 O1 : List Ob) (j : Nat) : List Ob := if j = 0 then O0 else O1

theorem look_free (hb : Fits m b) {kb : Option Nat} {e : Nat} {oe : Oper} (hoe : ops[e]? = some oe) (h : freeX m ops kb e oe s = true) : FreeX ops (killO kb) e (get (mk b nt s).tmps) := by
 cases kb with
 | none => exact FreeX.same fun _ => rfl
 | some kb =>
 simp only [freeX, Option.isNone_some, Bool.false_or] at h
 intro j oj hj hne h1 h2 t ht
 have hjs : j < ops.size := (Array.getElem?_eq_some_iff.1 hj).1
 have h3 := List.all_eq_true.1 h j (List.mem_range.2 hjs)
 rw [hj] at h3
 simp only [Bool.or_eq_true, beq_iff_eq] at h3
 rcases h3 with h3 | (h3 | h3) | h3
 · exact absurd h3 hne
 ·
  obtain ⟨x, hx, hb, ho⟩ := u9.1 h3
  exact absurd ho (h2 oe hoe x hx hb)
 ·
  obtain ⟨x, hx, hb, ho⟩ := u9.1 h3
  exact absurd ho (h1 x hx hb)
 · exact look_keep hb h3 t ht

theorem nilX_objs {O : List Ob} {o : Oper} {z : Bool} (h : nilX P (s.mini nt o.op.operands.toList) o = some z) : nilX P (({ s with O := O } : St).mini nt o.op.operands.toList) o = some z ∧ opQ P { s with O := O } o.op = opQ P s o.op := by
 obtain ⟨dst, op, ty, pos, after, guard⟩ := o
 have hev : ({ s with O := O } : St).ev = s.ev := by funext x; cases x <;> rfl
 cases op with
 | binOp op t x y yt => exact ⟨h, by simp only [opQ, hev]⟩
 | _ => simp [nilX] at h
theorem readX_pure {o : Oper} (hv : valCall o = none) {r : V} (h : readX P ih nt s o = some r) : ((u3 P (s.mini nt o.op.operands.toList) o).1 ∧ (u3 P (s.mini nt o.op.operands.toList) o).2 = r) ∨ ∀ O : List Ob, readX P ih nt { s with O := O } o = some r := by
 unfold readX at h
 split at h
 ·
  rename_i v hq
  cases h
  left
  rw [opQ_pureA hq]
  exact opQ_spec hq rfl fun x hx => ev_mini hx
 ·
  rename_i hq
  unfold slowR at h
  simp only [hv] at h
  split at h
  ·
   rename_i z hz
   cases h
   right
   intro O
   obtain ⟨h1, h2⟩ := nilX_objs (O := O) hz
   unfold readX
   rw [h2, hq]
   simp only [slowR, hv, h1]
  ·
   split at h
   ·
    rename_i hc
    cases h
    exact .inl ⟨hc, rfl⟩
   · cases h
theorem opQ_valCall {o : Oper} {x : Operand × List Operand} (hv : valCall o = some x) (s : St) : opQ P s o.op = none := by
 obtain ⟨fo, xs⟩ := x
 obtain ⟨xa, ts, ho, _⟩ := valCall_spec hv
 rw [ho]
 rfl
theorem still_yields (IH : ∀ t o, ih t = some o → Snd P t o) (hb : Fits m b) {o oe : Oper} {kb : Option Nat} {O1 : List Ob} (hext : isExt oe = true → ∃ x, O1 = s.O ++ [x]) (hz : no0 m s.y o = true) (hsl : okSl nt o = true) (hg : o.guard = none) {r : V}
  (h : readX P ih nt s o = some r) (hs : stillX P m nt ops kb O1 oe s o r = true) : Yields P ops o nt O1 (get (mk b nt s).tmps) r ∧ killO kb r = r ∧ ∀ t, (o.looksAt ops).contains t = true → killO kb (get (mk b nt s).tmps t) = get (mk b nt s).tmps t := by
 unfold stillX at hs
 rw [Bool.and_eq_true, Bool.and_eq_true] at hs
 obtain ⟨⟨hs, hk⟩, hl⟩ := hs
 refine ⟨?_, keepsO_eq hk, look_keep hb hl⟩
 have hgc : ∀ j want, o.guard = some (j, want) → u7 (ops.toList.map (·.dst)) (mk b nt { s with O := O1 }).tmps (some (j, want)) = some true := fun j want h => by rw [hg] at h; cases h
 cases hv : valCall o with
 | some x =>
  obtain ⟨fo, xs⟩ := x
  have key : readX P ih nt { s with O := O1 } o = some r → Yields P ops o nt O1 (get (mk b nt s).tmps) r := fun h1 => s8 (s := { s with O := O1 }) IH hb hz hsl hgc h1
  refine key ?_
  unfold readX at h ⊢
  rw [opQ_valCall hv] at h ⊢
  simp only [slowR, hv] at h ⊢
  simp only [hv] at hs
  have hev : ({ s with O := O1 } : St).ev = s.ev := by funext x; cases x <;> rfl
  rw [hev]
  split at h
  ·
   rename_i f caps hcl
   simp only [hcl] at hs ⊢
   split at h
   ·
    rename_i x hc
    rw [callX_same hc ?_]
    · exact h
    ·
     intro hok v hv
     rw [Bool.or_eq_true] at hs
     rcases hs with hs | hs
     ·
      obtain ⟨x, rfl⟩ := hext hs
      exact ext_both _ _ (List.all_eq_true.1 hok v hv)
     · exact d_both _ _ (List.all_eq_true.1 hs v hv)
   · cases h
  · cases h
 | none =>
  rcases readX_pure hv h with hp | hp
  rotate_left
  · exact s8 (s := { s with O := O1 }) IH hb hz hsl hgc (hp O1)
  simp only [hv] at hs
  have hp1 : (u3 P ({ s with O := O1 }.mini nt o.op.operands.toList) o).1 ∧ (u3 P ({ s with O := O1 }.mini nt o.op.operands.toList) o).2 = r := by
   rw [Bool.or_eq_true] at hs
   rcases hs with hs | hs
   ·
    have e : u3 P (({ s with O := O1 } : St).mini nt o.op.operands.toList) o = u3 P (s.mini nt o.op.operands.toList) o := pureA_objs (env := s.mini nt o.op.operands.toList) hs
    rw [e]; exact hp
   ·
    rw [Bool.and_eq_true, decide_eq_true_eq] at hs
    exact ⟨hs.1, sameV_eq _ _ hs.2⟩
  have e : u3 P (mk b nt { s with O := O1 }) o = u3 P ({ s with O := O1 }.mini nt o.op.operands.toList) o := pureA_congr (fun x hx => ev_both hb (no0_opd hz) (G7 hsl) hx) rfl
  have := Yields.pureT (P := P) (ops := ops) (env := mk b nt { s with O := O1 }) (o := o) hgc (by rw [e]; exact hp1.1) (D9 (D4 hsl) rfl)
  rw [e, hp1.2] at this
  exact this

theorem storeF_same {E E' : Env} {t : TypeId} {p v : V} (h : E'.objs = E.objs) (h1 : (B7 P E none t p v).1) : (B7 P E' none t p v).1 ∧ (B7 P E' none t p v).2.objs = (B7 P E none t p v).2.objs := by
 unfold B7 at h1 ⊢
 rw [h]
 split
 ·
  rename_i i' off sz _ _ htt
  simp only [htt] at h1
  split
  · rename_i ob hob; simp only [hob] at h1; exact ⟨⟨rfl, h1.2⟩, rfl⟩
  · rename_i hob; simp only [hob] at h1
 ·
  rename_i hno
  split at h1
  · rename_i i' off sz b' z' htt; exact absurd htt (hno i' off sz b' z' rfl)
  · exact h1.elim
theorem kill1_mk (i : Nat) : C8 (V.kill i) (mk b nt s) = mk b nt { s with T := killT s.T (some i) } := by
 simp only [C8, mk, slots_map (V.kill i)]
 congr 1
 congr 1
 funext t
 exact (slot_map (b := b) (s := s) (s' := { s with T := killT s.T (some i) }) (g := V.kill i) (fun x => rfl) rfl (fun t => Tr.get_map (f := V.kill i) rfl s.T t) t).symm

theorem frontE_sound (IH : ∀ t o, ih t = some o → Snd P t o) (hb : Fits m b) {kb : Option Nat} {O0 O1 : List Ob} {e : Nat} {oe : Oper} (hoe : ops[e]? = some oe) (hext : isExt oe = true → ∃ x, O1 = O0 ++ [x]) {s2 : St} {Rf : EffR} : ∀ (l : List Oper) (i : Nat) (s : St) (R : Option EffR),
  s.O = O0 → (∀ j, j < l.length → l[j]? = ops[i + j]?) → (∀ R', R = some R' → R'.O1 = O1) → frontE P ih m nt ops kb O1 e oe l i s R = some (s2, Rf) → K (mk b nt s2) → FWX P ops s.g (osE O0 O1) (fun _ => killO kb) [e] l i (mk b nt s) K
 | [], i, s, some R, _, _, _, h, hK => by
  simp only [frontE, Option.some.injEq, Prod.mk.injEq] at h
  obtain ⟨rfl, rfl⟩ := h
  exact hK
 | [], i, s, none, _, _, _, h, _ => by simp [frontE] at h
 | o :: rest, i, s, R, hO, hl, hR, h, hK => by
  have hoi : ops[i]? = some o := by have := hl 0 (by simp); simpa using this.symm
  have hl' : ∀ j, j < rest.length → rest[j]? = ops[i + 1 + j]? := fun j hj => by
   have := hl (j + 1) (by simp only [List.length_cons]; omega)
   rw [show i + 1 + j = i + (j + 1) by omega]; simpa using this
  unfold frontE at h
  split at h
  ·
   rename_i hz
   simp only [Bool.and_eq_true, Option.isNone_iff_eq_none] at hz
   obtain ⟨⟨hsl, hz⟩, hg⟩ := hz
   have hd := D4 hsl
   have hd' : l5 (mk b nt s) o.dst := D9 hd rfl
   have hgc : ∀ (E : Env) j want, o.guard = some (j, want) → u7 (ops.toList.map (·.dst)) E.tmps (some (j, want)) = some true := fun E j want h => by rw [hg] at h; cases h
   split at h
   ·
    -- the one that writes
    rename_i hie
    subst hie
    rw [hoe] at hoi
    cases hoi
    have hidx : [i].idxOf? i = some 0 := by simp [List.idxOf?]
    split at h
    ·
     rename_i R' hef
     split at h
     ·
      rename_i hc
      simp only [Bool.and_eq_true, decide_eq_true_eq] at hc
      obtain ⟨⟨hkb, hO1⟩, hfr⟩ := hc
      have hO1 := sameOs_eq _ _ hO1
      have ihh := frontE_sound IH hb hoe hext rest (i + 1) _ (some R') (by exact hO) hl' (fun R'' hR'' => by cases hR''; exact hO1) h hK
      have hev : ∀ x ∈ oe.op.operands.toList, ev (mk b nt s) x = s.ev x := fun x hx => ev_mk hb (no0_opd hz x hx) (G7 hsl x hx)
      have hfree := look_free (nt := nt) hb hoe hfr
      unfold effX at hef
      split at hef
      ·
       -- store
       rename_i t p v ho hdn
       split at hef
       ·
        rename_i hst
        cases hef
        subst hkb
        have hs := storeF_same (P := P) (E' := { mk b nt s with objs := osE O0 O1 0 }) (show osE O0 O1 0 = (s.mini nt []).objs by simp only [osE, if_true, ← hO]; rfl) hst
        refine FWX.store (κ := fun _ => killO none) hidx hoe ho hg hdn (fun _ => rfl) ?_ ?_ ?_
        · rw [hev p (by rw [ho]; simp [Op.operands]), hev v (by rw [ho]; simp [Op.operands])]; exact hs.1
        · rw [hev p (by rw [ho]; simp [Op.operands]), hev v (by rw [ho]; simp [Op.operands]), hs.2]; exact hO1
        ·
         simp only [hdn, putT, D5] at ihh
         exact ihh
       · cases hef
      ·
       -- alloc
       rename_i e' d ho hdn
       split at hef
       ·
        rename_i sz bytes z ht
        cases hef
        subst hkb
        refine FWX.alloc (κ := fun _ => killO none) hidx hoe ho hg hdn (by rw [hdn] at hd; exact (dstB_t hd).1) (fun _ => rfl) ht ?_ ?_
        · simp only [osE, if_true, if_neg (by decide : ¬ 0 + 1 = 0), ← hO]; exact hO1
        ·
         simp only [D5] at ihh
         rw [show (osE O0 O1 0).length = s.O.length by simp only [osE, if_true, hO], ← n8 hb (r8 hz) hd]
         exact ihh
       · cases hef
      ·
       -- box
       rename_i e' x d ho hdn
       split at hef
       ·
        rename_i hcl
        cases hef
        subst hkb
        refine FWX.box (κ := fun _ => killO none) hidx hoe ho hg hdn (by rw [hdn] at hd; exact (dstB_t hd).1) (fun _ => rfl) (by rw [hev x (by rw [ho]; simp [Op.operands])]; exact hcl) ?_ ?_
        · rw [hev x (by rw [ho]; simp [Op.operands])]; simp only [osE, if_true, if_neg (by decide : ¬ 0 + 1 = 0), ← hO]; exact hO1
        ·
         simp only [D5] at ihh
         rw [show (osE O0 O1 0).length = s.O.length by simp only [osE, if_true, hO], ← n8 hb (r8 hz) hd]
         exact ihh
       · cases hef
      ·
       -- append
       rename_i sv x t t' d ho hdn
       have esv := hev sv (by rw [ho]; simp [Op.operands, Call.operands])
       have ex := hev x (by rw [ho]; simp [Op.operands, Call.operands])
       have hdl : d < (mk b nt s).nt := by rw [hdn] at hd'; exact hd'
       simp only [] at hef
       split at hef
       ·
        rename_i hap
        split at hef
        ·
         rename_i bb off n sz hown
         split at hef
         ·
          rename_i hgb
          cases hef
          subst hkb
          refine FWX.app (κ := fun _ => killO (some bb)) (env0 := s.mini nt []) (r := get (q4 P (s.mini nt []) (some d) t t' (s.ev sv) (s.ev x)).2.tmps d) bb hidx hoe ho hg hdn hdl rfl hgb hfree (.inl ⟨off, n, sz, by rw [esv]; exact hown⟩) (by simp only [osE, if_true, ← hO]; rfl) (by rw [esv, ex]; exact hap) (by rw [esv, ex]; simp only [osE, if_neg (by decide : ¬ 0 + 1 = 0)]; exact hO1) (by rw [esv, ex]) ?_
          rw [kill1_mk]
          refine n8 hb ?_ hd ▸ ihh
          exact r8 hz
         · cases hef
        ·
         rename_i hno
         split at hef
         ·
          rename_i hgb
          cases hef
          subst hkb
          refine FWX.app (κ := fun _ => killO (some s.O.length)) (env0 := s.mini nt []) (r := get (q4 P (s.mini nt []) (some d) t t' (s.ev sv) (s.ev x)).2.tmps d) s.O.length hidx hoe ho hg hdn hdl rfl hgb hfree (.inr ⟨fun i off n sz e => hno i off n sz (by rw [← esv]; exact e), by simp only [osE, if_true, ← hO]⟩) (by simp only [osE, if_true, ← hO]; rfl) (by rw [esv, ex]; exact hap) (by rw [esv, ex]; simp only [osE, if_neg (by decide : ¬ 0 + 1 = 0)]; exact hO1) (by rw [esv, ex]) ?_
          rw [kill1_mk]
          refine n8 hb ?_ hd ▸ ihh
          exact r8 hz
         · cases hef
       · cases hef
      · cases hef
     · cases h
    · cases h
   ·
    rename_i hie
    have e0 : osE O0 O1 0 = s.O := by simp only [osE, if_true, hO]
    have e1 : osE O0 O1 1 = O1 := rfl
    split at h
    ·
     rename_i hbd
     split at h
     ·
      rename_i r hr
      have ihh := frontE_sound IH hb hoe hext rest (i + 1) _ R (by exact hO) hl' hR h hK
      refine FWX.read (r := r) hie hoe hd' (.inl hbd) (fun _ => ?_) (fun hf => by rw [hbd] at hf; cases hf) ?_
      · rw [e0]; exact s8 IH hb hz hsl (hgc _) hr
      · exact (n8 hb (r8 hz) hd) ▸ ihh
     · cases h
    ·
     rename_i hnb
     split at h
     ·
      rename_i hba
      split at h
      ·
       rename_i R'
       split at h
       ·
        rename_i r hr
        have ihh := frontE_sound IH hb hoe hext rest (i + 1) _ _ (by exact hO) hl' hR h hK
        refine FWX.read (r := r) hie hoe hd' (.inr (.inl hba)) (fun hf => by rw [hba] at hf; cases hf) (fun _ => ?_) ?_
        · rw [e1]; exact s8 (s := { s with O := O1 }) IH hb hz hsl (hgc _) hr
        · exact (n8 hb (r8 hz) hd) ▸ ihh
       · cases h
      · cases h
     ·
      split at h
      ·
       rename_i r hr
       split at h
       ·
        rename_i hst
        have ihh := frontE_sound IH hb hoe hext rest (i + 1) _ R (by exact hO) hl' hR h hK
        obtain ⟨y1, y2, y3⟩ := still_yields (ops := ops) IH hb (by rw [hO]; exact hext) hz hsl hg hr hst
        refine FWX.read (r := r) hie hoe hd' (.inr (.inr ⟨y2, y3⟩)) (fun _ => ?_) (fun _ => ?_) ?_
        · rw [e0]; exact s8 IH hb hz hsl (hgc _) hr
        · rw [e1]; exact y1
        · exact (n8 hb (r8 hz) hd) ▸ ihh
       · cases h
      · cases h
  · cases h

theorem frontX_O : ∀ (l : List Oper) (s : St), frontX P ih m nt all l s = some s' → s'.O = s.O
 | [], s, h => by simp only [frontX, Option.some.injEq] at h; rw [h]
 | o :: rest, s, h => by
  unfold frontX at h
  repeat' split at h
  all_goals first
   | (have r := frontX_O rest _ h; exact r)
   | (cases h; done)

theorem effs_lt {l : List Oper} {e : Nat} (h : effs l = [e]) : e < l.length := by
 have hm : e ∈ effs l := by rw [h]; simp
 simp only [effs, List.mem_map, List.mem_filter] at hm
 obtain ⟨x, ⟨hx, _⟩, rfl⟩ := hm
 have := List.mem_zipIdx hx
 omega

theorem frontW_sound (IH : ∀ t o, ih t = some o → Snd P t o) (hm : P.follows .mixedOrders = true) (hb : Fits m b) {l : List Oper} {n e id : Nat} (hB : Region.lexTailB .any l.toArray n = true) (hE : effs (l.take n) = [e]) (h : frontW P ih m nt l n e s = some s') :
  s'.g = s.g ∧ ∀ Q : Exit → Env → Prop, (∀ K : Env → Prop, (∀ env', Q .normal env' → K env') → OW b.ro P l (l.drop n) (mk b nt s') K) → PW b.ro P (.region id l.toArray true) Q (mk b nt s) := by
 unfold frontW at h
 split at h
 ·
  rename_i oe hoe
  simp only [] at h
  split at h
  ·
   rename_i hc
   simp only [Bool.and_eq_true, dstsB, decide_eq_true_eq, List.all_eq_true] at hc
   obtain ⟨⟨hnd, hdl⟩, hd0⟩ := hc
   have hclr := fun t => Tr.get_clear (dsts (l.take n)) s.T t fun d hd => (dstB_t (hdl d hd)).2
   split at h
   ·
    rename_i s1 h1
    split at h
    ·
     rename_i R0 hR0
     split at h
     ·
      rename_i s2 R hfe
      cases h
      have hO := frontE_O _ _ _ _ hfe
      have hO1 : R.O1 = R0.O1 := hO.2.2 (fun _ h => by cases h)
      refine ⟨hO.1, fun Q hQ => ?_⟩
      have hen : e < (l.take n).length := effs_lt hE
      have hen' : e < n ∧ e < l.length := by rw [List.length_take] at hen; omega
      have hoe' : l.toArray[e]? = some oe := by simpa using hoe
      have hext : isExt oe = true → ∃ x, R0.O1 = s.O ++ [x] := fun hx => by
       have := effX_ext hR0 hx
       rw [frontX_O _ _ h1] at this
       exact this
      -- less is known
      refine PW.weaken (env' := mk b nt { s with T := s.T.clear (dsts (l.take n)) }) (Nat.le_refl _) rfl (fun t => ?_) ?_ rfl rfl
      ·
       simp only [mk]
       rw [s6, s6]
       split
       ·
        unfold Base.slot
        split
        ·
         simp only [hclr t]; split
         · exact .inr rfl
         · exact .inl rfl
        ·
         dsimp only
         split
         · exact .inl rfl
         ·
          simp only [hclr t]; split
          · exact .inr rfl
          · exact .inl rfl
       · exact .inl rfl
      ·
       refine PW.drawX n [e] (osE s.O R0.O1) (fun _ => killO R0.kb) hm hB (fun i hi => ?_) ⟨by simp, fun k i i' h1 h2 => ?_⟩ (fun _ => killO_dead _) hnd (fun t ht => ?_) rfl ?_ fun K hK => ?_
       · rw [List.mem_singleton] at hi; rw [hi]; exact hen'.1
       · cases k <;> simp at h2
       ·
        simp only [mk]
        rw [s6]
        split
        ·
         rw [slot_out (s := { s with T := s.T.clear (dsts (l.take n)) }) (dst0_t hb (hd0 t ht))]
         exact (hclr t).trans (if_pos (by simpa [dsts] using ht))
        · rfl
       ·
        simp only [mk, A5, List.all_map, List.all_eq_true, Function.comp, decide_eq_true_eq, List.mem_range]
        exact fun x hx => decide_eq_true hx
       ·
        have hK2 := hQ K hK
        rw [hO1] at hK2
        refine frontE_sound (K := fun env' => OW b.ro P l (l.drop n) { env' with objs := osE s.O R0.O1 [e].length } K) (ops := l.toArray) IH hb hoe' hext (l.take n) 0 { s with T := s.T.clear (dsts (l.take n)) } none rfl (fun j hj => ?_) (fun _ h => by cases h) hfe ?_
        ·
         rw [List.length_take] at hj
         rw [List.getElem?_take_of_lt (by omega)]; simp
        · exact hK2
     · cases h
    · cases h
   · cases h
  · cases h
 · cases h

theorem frzX_sound (hb : Fits m b) {c : Code} {Q : Exit → Env → Prop} : ∀ (l : List Oper) (s : St), (frzX P l s).g = s.g ∧ (PW b.ro P c Q (mk b nt (frzX P l s)) → PW b.ro P c Q (mk b nt s))
 | [], s => ⟨rfl, fun h => h⟩
 | o :: l, s => by
  unfold frzX
  split
  ·
   rename_i j _
   split
   ·
    rename_i hc
    simp only [Bool.and_eq_true, decide_eq_true_eq] at hc
    have r := frzX_sound hb (c := c) (Q := Q) l (frzS s j)
    refine ⟨r.1.trans (frzS_g j), fun h => PW.frz j hc.1 hc.2 ?_⟩
    rw [frzS_mk]
    exact r.2 h
   · exact frzX_sound hb l s
  · exact frzX_sound hb l s

theorem frzX_g : ∀ (l : List Oper) (s : St), (frzX P l s).g = s.g
 | [], _ => rfl
 | o :: l, s => by
  unfold frzX
  split
  ·
   split
   · exact (frzX_g l _).trans (frzS_g _)
   · exact frzX_g l s
  · exact frzX_g l s

end
end Go.PW

namespace Go.PW
open Go.RowKit
section
variable {P : Program} {K : Env → Prop} {m : Md} {b : Base} {nt : Nat} {s s' : St} {ih : Task → Option Out} {tb : Tab} {ops : Array Oper} {all : List Oper}

theorem drop_cons {α : Type} {l t : List α} {a d : α} {k : Nat} (h : l.drop k = a :: t) : l.getD k d = a ∧ l.drop (k + 1) = t := by
 have h1 : l[k]? = some a := by
  have := congrArg List.head? h
  simpa [List.head?_drop] using this
 refine ⟨by simp [List.getD_eq_getElem?_getD, h1], ?_⟩
 have := congrArg List.tail h
 simpa [List.tail_drop] using this

theorem FWX.readV {g1 : Nat} {os : Nat → List Ob} {κ : Nat → V → V} {cs : List Nat} {env : Env} {i : Nat} {o : Oper} {l : List Oper} {r : V} (hic : cs.idxOf? i = none) (hd : l5 env o.dst)
  (hk : ∀ (k c : Nat) oc, cs[k]? = some c → ops[c]? = some oc → v6 oc i = true ∨ v6 o c = true ∨ (κ k r = r ∧ ∀ t, (o.looksAt ops).contains t = true → κ k (get env.tmps t) = get env.tmps t))
  (hy : ∀ j, j ≤ cs.length → (∀ (k c : Nat), cs[k]? = some c → v6 o c = true → k < j) → (∀ (k c : Nat) oc, cs[k]? = some c → ops[c]? = some oc → v6 oc i = true → j ≤ k) → Yields P ops o env.nt (os j) (get env.tmps) r)
  (h : FWX P ops g1 os κ cs l (i + 1) (putO env o.dst r) K) : FWX P ops g1 os κ cs (o :: l) i env K := by
 refine ⟨r, ?_, by rw [hic]; exact h⟩
 unfold YB
 rw [hic]
 refine ⟨⟨A7 hd, fun q c oc hq hc h3 h4 => ?_⟩, fun j hj hdj hu => ?_⟩
 ·
  rcases hk q c oc hq hc with hk | hk | hk
  · obtain ⟨x, hx, hb, ho⟩ := u9.1 hk; exact absurd ho (h3 x hx hb)
  · obtain ⟨x, hx, hb, ho⟩ := u9.1 hk; exact absurd ho (h4 x hx hb)
  · exact hk
 ·
  refine hy j hj (fun k c hkc hb => ?_) (fun k c oc hkc hoc hb => ?_)
  ·
   obtain ⟨x, hx, hb, ho⟩ := u9.1 hb
   exact hdj k x hx hb (by rw [ho]; exact hkc)
  ·
   obtain ⟨x, hx, hb, ho⟩ := u9.1 hb
   exact hu k c oc x hkc hoc hx hb ho

variable {N : Nat}
theorem chainV_lt : ∀ (l : List Nat) (a : Nat), chainV ops N (a :: l) = true → (∀ x ∈ l, a < x) ∧ a < N ∧ ∀ x ∈ l, x < N
 | [], _, h => by simp only [chainV, Nat.blt_eq] at h; simp [h]
 | b :: l, a, h => by
  simp only [chainV, Bool.and_eq_true, Nat.blt_eq] at h
  obtain ⟨h1, h2, h3⟩ := chainV_lt l b h.2
  refine ⟨fun x hx => ?_, by omega, fun x hx => ?_⟩
  ·
   rcases List.mem_cons.1 hx with rfl | hx
   · exact h.1.1
   · have := h1 x hx; omega
  ·
   rcases List.mem_cons.1 hx with rfl | hx
   · exact h2
   · exact h3 x hx
theorem chainV_n : ∀ (l : List Nat), chainV ops N l = true → ∀ x ∈ l, x < N
 | [], _ => by simp
 | a :: l, h => by
  obtain ⟨_, h2, h3⟩ := chainV_lt l a h
  intro x hx
  rcases List.mem_cons.1 hx with rfl | hx
  · exact h2
  · exact h3 x hx
theorem chainV_pw : ∀ (l : List Nat), chainV ops N l = true → l.Pairwise (· < ·)
 | [], _ => List.Pairwise.nil
 | [a], _ => by simp
 | a :: b :: l, h => by
  refine List.Pairwise.cons (fun x hx => (chainV_lt _ a h).1 x hx) (chainV_pw (b :: l) ?_)
  simp only [chainV, Bool.and_eq_true] at h
  exact h.2
theorem chainV_ok : ∀ (l : List Nat), chainV ops N l = true → ∀ (k i i' : Nat), l[k]? = some i → l[k + 1]? = some i' → ∀ o, ops[i']? = some o → ∃ e ∈ o.after, Region.binds .any e = true ∧ e.on = i
 | [], _, k, i, i', h1, _, _, _ => by simp at h1
 | [a], _, k, i, i', _, h2, _, _ => by simp at h2
 | a :: b :: l, h, k, i, i', h1, h2, o, ho => by
  simp only [chainV, Bool.and_eq_true] at h
  cases k with
  | zero =>
   simp only [List.getElem?_cons_zero, Option.some.injEq, Nat.zero_add, List.getElem?_cons_succ] at h1 h2
   subst h1 h2
   have := h.1.2
   rw [ho] at this
   exact u9.1 this
  | succ k => exact chainV_ok (b :: l) h.2 k i i' (by simpa using h1) (by simpa using h2) o ho
theorem chained_of {cs : List Nat} (h : chainV ops N cs = true) : chained ops cs := ⟨chainV_pw cs h, chainV_ok cs h⟩

theorem zipIdx_all {cs : List Nat} {p : Nat × Nat → Bool} (h : cs.zipIdx.all p = true) {k c : Nat} (hk : cs[k]? = some c) : p (c, k) = true := by
 refine List.all_eq_true.1 h (c, k) ?_
 rw [List.mem_iff_getElem?]
 exact ⟨k, by simp [hk]⟩

theorem still_V (IH : ∀ t o, ih t = some o → Snd P t o) (hb : Fits m b) {o : Oper} {Oj : List Ob} (hz : no0 m s.y o = true) (hsl : okSl nt o = true) (hgc : ∀ j want, o.guard = some (j, want) → u7 (ops.toList.map (·.dst)) (mk b nt { s with O := Oj }).tmps (some (j, want)) = some true) {r : V}
  (h : readX P ih nt s o = some r) (hs : stillV P nt s o r Oj = true) : Yields P ops o nt Oj (get (mk b nt s).tmps) r := by
 unfold stillV at hs
 cases hv : valCall o with
 | some x =>
  obtain ⟨fo, xs⟩ := x
  have key : readX P ih nt { s with O := Oj } o = some r → Yields P ops o nt Oj (get (mk b nt s).tmps) r := fun h1 => s8 (s := { s with O := Oj }) IH hb hz hsl hgc h1
  refine key ?_
  unfold readX at h ⊢
  rw [opQ_valCall hv] at h ⊢
  simp only [slowR, hv] at h ⊢
  simp only [hv] at hs
  have hev : ({ s with O := Oj } : St).ev = s.ev := by funext x; cases x <;> rfl
  rw [hev]
  split at h
  ·
   rename_i f caps hcl
   simp only [hcl] at hs ⊢
   split at h
   ·
    rename_i x hc
    rw [Bool.or_eq_true] at hs
    rcases hs with hs | hs
    ·
     rw [callX_same hc fun hok v hv => d_both _ _ (List.all_eq_true.1 hs v hv)]
     exact h
    ·
     rw [Bool.and_eq_true] at hs
     have e := sameDs_eq _ _ hs.2
     have : callX ih { s with O := Oj } f (xs.map s.ev ++ caps) = some (.d x, []) := by
      unfold callX at hc ⊢
      split at hc
      ·
       simp only [hs.1, if_true]
       rw [← e]
       exact hc
      · cases hc
     rw [this]
     exact h
   · cases h
  · cases h
 | none =>
  rcases readX_pure hv h with hp | hp
  rotate_left
  · exact s8 (s := { s with O := Oj }) IH hb hz hsl hgc (hp Oj)
  simp only [hv] at hs
  have hp1 : (u3 P ({ s with O := Oj }.mini nt o.op.operands.toList) o).1 ∧ (u3 P ({ s with O := Oj }.mini nt o.op.operands.toList) o).2 = r := by
   rw [Bool.or_eq_true] at hs
   rcases hs with hs | hs
   ·
    have e : u3 P (({ s with O := Oj } : St).mini nt o.op.operands.toList) o = u3 P (s.mini nt o.op.operands.toList) o := pureA_objs (env := s.mini nt o.op.operands.toList) hs
    rw [e]; exact hp
   ·
    rw [Bool.and_eq_true, decide_eq_true_eq] at hs
    exact ⟨hs.1, sameV_eq _ _ hs.2⟩
  have e : u3 P (mk b nt { s with O := Oj }) o = u3 P ({ s with O := Oj }.mini nt o.op.operands.toList) o := pureA_congr (fun x hx => ev_both hb (no0_opd hz) (G7 hsl) hx) rfl
  have := Yields.pureT (P := P) (ops := ops) (env := mk b nt { s with O := Oj }) (o := o) hgc (by rw [e]; exact hp1.1) (D9 (D4 hsl) rfl)
  rw [e, hp1.2] at this
  exact this

theorem passV_g {l : List Oper} : ∀ (i : Nat) (s : St) (p : PV), passV P tb ih m nt all l i s = some p → p.s.g = s.g := by
 induction l with
 | nil => intro i s p h; simp only [passV, Option.some.injEq] at h; subst h; rfl
 | cons o l ihl =>
  intro i s p h
  unfold passV at h
  repeat' split at h
  all_goals first
   | (cases h; done)
   | (rename_i hp; cases h; have := ihl _ _ _ hp; exact this)
theorem passV_O {l : List Oper} : ∀ (i : Nat) (s : St) (p : PV), passV P tb ih m nt all l i s = some p → p.s.O = (s.O :: p.es.map (·.2.1)).getD p.es.length [] := by
 induction l with
 | nil => intro i s p h; simp only [passV, Option.some.injEq] at h; subst h; rfl
 | cons o l ihl =>
  intro i s p h
  unfold passV at h
  repeat' split at h
  all_goals first
   | (cases h; done)
   | (rename_i hp; cases h; have := ihl _ _ _ hp; simpa using this)

theorem FWX.callMG {g1 : Nat} {os : Nat → List Ob} {κ : Nat → V → V} {cs : List Nat} {env : Env} {i q : Nat} {o : Oper} {l : List Oper} {fo : Operand} {xs : Array Operand} {ts : Array TypeId} (hq : cs.idxOf? i = some q) (hoi : ops[i]? = some o) (ho : o.op = .call { callee := .value fo, args := xs, argTypes := ts })
  (hgc : ∀ j want, o.guard = some (j, want) → u7 (ops.toList.map (·.dst)) env.tmps (some (j, want)) = some true)
  {f : FuncId} {caps : List V} (hf : E0 (ev env fo) = some (f, caps)) {r : V} (hc : CallM P f (xs.toList.map (ev env) ++ caps) (os q) r (os (q + 1)) []) (hle : (os q).length ≤ (os (q + 1)).length) (hκ : ∀ v, κ q v = v) (hd : l5 env o.dst)
  (h : FWX P ops g1 os κ cs l (i + 1) (putO env o.dst r) K) : FWX P ops g1 os κ cs (o :: l) i env K := by
 have hid0 : C8 (κ q) env = env := killMap_id hκ
 refine ⟨r, ?_, by rw [hq]; simp only [hid0]; exact h⟩
 unfold YB
 rw [hq]
 refine ⟨fun _ _ _ _ _ _ t _ => hκ (_), A7 hd, fun ro B w0 S0 φ gs th ff a w Q' next hr hon hdead hgs hnext => ?_⟩
 have hr' : Rel B w0 S0 φ { env with tmps := G2 (o.looksAt ops) env.tmps, objs := os q, gs := (0, []), th := (fun _ _ => True, true) } a w := by
  have h1 := hr.noGs.only (o.looksAt ops)
  rw [hon] at h1
  exact RelF.toRel (by simpa [q3] using h1)
 have hmem : ∀ y, y = fo ∨ y ∈ xs.toList → y ∈ o.op.operands.toList := by
  intro y hy
  rw [ho]
  simp only [Op.operands, Call.operands, Array.toList_append, List.mem_append]
  rcases hy with rfl | hy
  · exact .inl (by simp)
  · exact .inr hy
 have hev : ∀ y, y ∈ o.op.operands.toList → ev { env with tmps := G2 (o.looksAt ops) env.tmps, objs := os q, gs := (0, []), th := (fun _ _ => True, true) } y = ev env y := by
  intro y hy
  have := w7 (ops := ops) y hy env
  cases y <;> simpa [ev] using this
 obtain ⟨us, hex, hus⟩ := B9 hr' ho (by rw [hev fo (hmem fo (.inl rfl))]; exact hf) hc.1
 rw [List.map_congr_left fun y hy => hev y (hmem y (.inr hy))] at hus
 have hw : Region.wanted o (yielded ops a.tmps) = true := by
  cases hg : o.guard with
  | none => exact k7 hg _
  | some gd =>
   obtain ⟨j, want⟩ := gd
   have hops : ops.toList.toArray = ops := by simp
   have hw := o9 (all := ops.toList) hr' hg (by
    have e := F6 (ops := ops) hg env
    simp only at e ⊢
    rw [e]; exact hgc j want hg)
   rw [hops] at hw
   exact hw
 have key := hc.2 B w0 S0 φ w us (((List.range env.nt).map fun t => (ff t, a.tmps.getD t undef, (os q).length)) ++ gs.2) ⟨hr.below, hr.base, Marks.nil _ _ _, Nat.zero_le _, fun t => by simp [bare, get, RepV], hr.objsR, hr.low, hr.inj, Nat.le_refl _, fun x hx => by
  rcases List.mem_append.1 hx with hx | hx
  ·
   obtain ⟨t, _, rfl⟩ := List.mem_map.1 hx
   exact ⟨Nat.le_refl _, hr.tmps t⟩
  · exact ⟨Nat.le_trans (hr.ghost.2 x hx).1 hr.ghost.1, (hr.ghost.2 x hx).2⟩⟩ hus
 unfold wpOpIn
 simp only [hoi]
 rw [if_pos hw]
 refine wp_enter hex (key.mono ?_)
 rintro e w' ⟨v, φ', rfl, hko, hm, hrep⟩
 have hid : ((((List.range env.nt).map fun t => (ff t, a.tmps.getD t undef, (os q).length)) ++ gs.2).map fun x => (k9 [] x.1, x.2)) = ((List.range env.nt).map fun t => (ff t, a.tmps.getD t undef, (os q).length)) ++ gs.2 := by
  conv => rhs; rw [← List.map_id (_ ++ _)]
  exact List.map_congr_left fun x _ => rfl
 rw [hid] at hm
 have hrel : RelF B w0 S0 φ' env.nt (os (q + 1)) gs th ff a w' := by
  refine ⟨hm.below, hr.base, hr.nodef.keeps hko, hr.size, fun t => ?_, hm.objs, hm.low, hm.inj, Nat.le_trans hr.ghost.1 hle, fun x hx => ⟨(hr.ghost.2 x hx).1, (hm.ghost.2 x (List.mem_append_right _ hx)).2⟩⟩
  by_cases ht : t < env.nt
  ·
   have := (hm.ghost.2 (ff t, a.tmps.getD t undef, (os q).length) (List.mem_append_left _ (List.mem_map.2 ⟨t, List.mem_range.2 ht, rfl⟩))).2
   exact RepV.mono (w := w') (w' := w') ⟨fun b o x hb hc => ⟨hc, hb⟩, KeepsOthers.refl _, hle, fun i hi _ => ⟨rfl, fun g hg cur e hc => ⟨cur, hc, rfl⟩⟩⟩ _ _ this
  · rw [hdead t (by omega)]; simp [RepV]
 exact ⟨v, rfl, hnext φ' _ w' (by rw [show (fun t => κ q (ff t)) = ff from funext fun t => hκ (ff t)]; exact hrel.put o.dst (A7 hd) hrep)⟩

theorem walkV (IH : ∀ t o, ih t = some o → Snd P t o) (hb : Fits m b) (hall : ops.toList = all) {cs : List Nat} {os : List (List Ob)} {kbs : List (Option Nat)} {O0 : List Ob} : ∀ (l : List Oper) (i q : Nat) (s : St) (p : PV),
  (∀ j, j < l.length → l[j]? = ops[i + j]?) → passV P tb ih m nt all l i s = some p → s.O = os.getD q [] → os.drop (q + 1) = p.es.map (·.2.1) → kbs.drop q = p.es.map (·.2.2) →
  checkV P tb m nt all ops cs os kbs l p.rs i q s = true → K (mk b nt { p.s with O := O0 }) → FWX P ops s.g (fun j => os.getD j []) (fun j => killO (kbs.getD j none)) cs l i (mk b nt { s with O := O0 }) K
 | [], i, q, s, p, _, h, _, _, _, _, hK => by
  simp only [passV, Option.some.injEq] at h
  subst h
  exact hK
 | o :: rest, i, q, s, p, hl, h, hO, hos, hkbs, hc, hK => by
  have hoi : ops[i]? = some o := by have := hl 0 (by simp); simpa using this.symm
  have hl' : ∀ j, j < rest.length → rest[j]? = ops[i + 1 + j]? := fun j hj => by
   have := hl (j + 1) (by simp only [List.length_cons]; omega)
   rw [show i + 1 + j = i + (j + 1) by omega]; simpa using this
  unfold passV at h
  split at h
  ·
   rename_i hz
   simp only [Bool.and_eq_true] at hz
   obtain ⟨hsl, hz⟩ := hz
   have hd := D4 hsl
   have hd' : l5 (mk b nt { s with O := O0 }) o.dst := D9 hd rfl
   have hev : ∀ x ∈ o.op.operands.toList, ev (mk b nt { s with O := O0 }) x = s.ev x := fun x hx => (ev_mk (s := { s with O := O0 }) hb (no0_opd hz x hx) (G7 hsl x hx)).trans (by cases x <;> rfl)
   split at h
   rotate_left
   ·
    -- one that is not carried out
    rename_i hgx
    split at h
    ·
     rename_i p' hp
     cases h
     unfold checkV at hc
     simp only [hgx, Bool.and_eq_true, decide_eq_true_eq] at hc
     obtain ⟨⟨hidx, hrd⟩, hc⟩ := hc
     have ihh := walkV IH hb hall rest (i + 1) q _ p' hl' hp hO hos hkbs hc hK
     refine FWX.readV (r := gF) hidx hd' (fun k c oc hkc hoc => ?_) (fun j hj hlo hhi => ?_) ?_
     ·
      unfold holdV at hrd
      have h1 := zipIdx_all hrd hkc
      simp only [hoc, Bool.or_eq_true, Bool.and_eq_true] at h1
      rcases h1 with (h1 | h1) | h1
      · exact .inl h1
      · exact .inr (.inl h1)
      · exact .inr (.inr ⟨keepsO_eq h1.1, look_keep hb h1.2⟩)
     ·
      cases hgd : o.guard with
      | none => simp [guardX, hgd] at hgx
      | some gd =>
       obtain ⟨jg, want⟩ := gd
       exact Yields.skipT (env := mk b nt { s with O := os.getD j [] }) hgd (by rw [hall]; exact guardX_C (s := s) hb hgx jg want hgd) (D9 hd rfl)
     · exact (n8 (s := { s with O := O0 }) (v := gF) hb (r8 hz) hd) ▸ ihh
    · cases h
   · cases h
   rename_i hgx
   have hgc : ∀ (O : List Ob) j want, o.guard = some (j, want) → u7 (ops.toList.map (·.dst)) (mk b nt { s with O := O }).tmps (some (j, want)) = some true := fun O j want h => by rw [hall]; exact guardX_C (s := s) hb hgx j want h
   split at h
   ·
    -- one that writes
    rename_i hE
    split at h
    ·
     rename_i R hef
     split at h
     ·
      rename_i p' hp
      cases h
      simp only [List.map_cons] at hos hkbs
      obtain ⟨ho1, ho2⟩ := drop_cons (d := []) hos
      obtain ⟨hk1, hk2⟩ := drop_cons (d := none) hkbs
      unfold checkV at hc
      simp only [hgx, hE, if_true, Bool.and_eq_true, decide_eq_true_eq] at hc
      obtain ⟨⟨hidx, hfr⟩, hc⟩ := hc
      rw [hk1] at hfr hc
      rw [ho1] at hc
      have ihh := walkV IH hb hall rest (i + 1) (q + 1) _ p' hl' hp ho1.symm ho2 hk2 hc hK
      have hfree := look_free (nt := nt) hb hoi hfr
      unfold effV at hef
      split at hef
      ·
       -- a call
       rename_i fo xs hv
       obtain ⟨xa, ts, ho, hxs⟩ := valCall_spec hv
       split at hef
       ·
        rename_i f caps hcl
        split at hef
        ·
         rename_i r O1 hih
         split at hef
         ·
          rename_i hle
          cases hef
          have hfo : ev (mk b nt { s with O := O0 }) fo = s.ev fo := hev fo (by rw [ho]; simp [Op.operands, Call.operands])
          have hxe : xa.toList.map (ev (mk b nt { s with O := O0 })) = xs.map s.ev := by
           rw [hxs]
           refine List.map_congr_left fun x hx => hev x ?_
           rw [ho, ← hxs] at *
           simp only [Op.operands, Call.operands, Array.toList_append, List.mem_append]
           exact .inr hx
          refine FWX.callMG (r := r) hidx hoi ho (hgc O0) (by rw [hfo]; exact hcl) ?_ ?_ (fun v => by show killO (kbs.getD q none) v = v; rw [hk1]; rfl) hd' ?_
          ·
           show CallM P f _ (os.getD q []) r (os.getD (q + 1) []) []
           rw [hxe, ← hO, ho1]; exact IH _ _ hih
          ·
           show (os.getD q []).length ≤ (os.getD (q + 1) []).length
           rw [← hO, ho1]; exact hle
          ·
           simp only [D5] at ihh
           exact (n8 (s := { s with O := O0 }) (v := r) hb (r8 hz) hd) ▸ ihh
         · cases hef
        · cases hef
       · cases hef
      ·
       split at hef
       rotate_left
       · cases hef
       rename_i hgn
       have hg : o.guard = none := by simpa using hgn
       unfold effX at hef
       split at hef
       ·
        -- store
        rename_i t pp v ho hdn
        split at hef
        ·
         rename_i hst
         cases hef
         have hs := storeF_same (P := P) (E' := { mk b nt { s with O := O0 } with objs := os.getD q [] }) (show os.getD q [] = (s.mini nt []).objs by rw [← hO]; rfl) hst
         refine FWX.store hidx hoi ho hg hdn (fun v => by show killO (kbs.getD q none) v = v; rw [hk1]; rfl) ?_ ?_ ?_
         · rw [hev pp (by rw [ho]; simp [Op.operands]), hev v (by rw [ho]; simp [Op.operands])]; exact hs.1
         · rw [hev pp (by rw [ho]; simp [Op.operands]), hev v (by rw [ho]; simp [Op.operands])]; exact hs.2.trans ho1.symm
         ·
          simp only [hdn, putT, D5] at ihh
          exact ihh
        · cases hef
       ·
        -- alloc
        rename_i e' d ho hdn
        split at hef
        ·
         rename_i sz bytes z ht
         cases hef
         refine FWX.alloc hidx hoi ho hg hdn (by rw [hdn] at hd; exact (dstB_t hd).1) (fun v => by show killO (kbs.getD q none) v = v; rw [hk1]; rfl) ht ?_ ?_
         ·
          show os.getD q [] ++ _ = os.getD (q + 1) []
          rw [← hO, ho1]
         ·
          simp only [D5] at ihh
          show FWX _ _ _ _ _ _ _ _ (putO _ _ (.ptr (os.getD q []).length 0)) _
          rw [← hO]
          exact (n8 (s := { s with O := O0 }) hb (r8 hz) hd) ▸ ihh
        · cases hef
       ·
        -- box
        rename_i e' x d ho hdn
        split at hef
        ·
         rename_i hcl
         cases hef
         refine FWX.box hidx hoi ho hg hdn (by rw [hdn] at hd; exact (dstB_t hd).1) (fun v => by show killO (kbs.getD q none) v = v; rw [hk1]; rfl) (by rw [hev x (by rw [ho]; simp [Op.operands])]; exact hcl) ?_ ?_
         ·
          rw [hev x (by rw [ho]; simp [Op.operands])]
          show os.getD q [] ++ _ = os.getD (q + 1) []
          rw [← hO, ho1]
         ·
          simp only [D5] at ihh
          show FWX _ _ _ _ _ _ _ _ (putO _ _ (.ptr (os.getD q []).length 0)) _
          rw [← hO]
          exact (n8 (s := { s with O := O0 }) hb (r8 hz) hd) ▸ ihh
        · cases hef
       ·
        -- append
        rename_i sv x t t' d ho hdn
        have esv := hev sv (by rw [ho]; simp [Op.operands, Call.operands])
        have ex := hev x (by rw [ho]; simp [Op.operands, Call.operands])
        have hdl : d < (mk b nt { s with O := O0 }).nt := by rw [hdn] at hd'; exact hd'
        simp only [] at hef
        split at hef
        ·
         rename_i hap
         split at hef
         ·
          rename_i bb off n sz hown
          split at hef
          ·
           rename_i hgb
           cases hef
           refine FWX.app (env0 := s.mini nt []) (r := get (q4 P (s.mini nt []) (some d) t t' (s.ev sv) (s.ev x)).2.tmps d) bb hidx hoi ho hg hdn hdl (by show killO (kbs.getD q none) = V.kill bb; rw [hk1]; rfl) hgb hfree (.inl ⟨off, n, sz, by rw [esv]; exact hown⟩) (by show s.O = os.getD q []; exact hO) (by rw [esv, ex]; exact hap) (by rw [esv, ex]; exact ho1.symm) (by rw [esv, ex]) ?_
           rw [kill1_mk]
           exact (n8 (s := { s with O := O0, T := killT s.T (some bb) }) hb (r8 hz) hd) ▸ ihh
          · cases hef
         ·
          rename_i hno
          split at hef
          ·
           rename_i hgb
           cases hef
           refine FWX.app (env0 := s.mini nt []) (r := get (q4 P (s.mini nt []) (some d) t t' (s.ev sv) (s.ev x)).2.tmps d) s.O.length hidx hoi ho hg hdn hdl (by show killO (kbs.getD q none) = V.kill s.O.length; rw [hk1]; rfl) hgb hfree (.inr ⟨fun i off n sz e => hno i off n sz (by rw [← esv]; exact e), by show s.O.length = (os.getD q []).length; rw [← hO]⟩) (by show s.O = os.getD q []; exact hO) (by rw [esv, ex]; exact hap) (by rw [esv, ex]; exact ho1.symm) (by rw [esv, ex]) ?_
           rw [kill1_mk]
           exact (n8 (s := { s with O := O0, T := killT s.T (some s.O.length) }) hb (r8 hz) hd) ▸ ihh
          · cases hef
        · cases hef
       · cases hef
     · cases h
    · cases h
   ·
    rename_i hE
    split at h
    ·
     rename_i r hr
     split at h
     ·
      rename_i p' hp
      cases h
      unfold checkV at hc
      simp only [hgx, if_neg hE, Bool.and_eq_true, decide_eq_true_eq] at hc
      obtain ⟨⟨hidx, hrd⟩, hc⟩ := hc
      have ihh := walkV IH hb hall rest (i + 1) q _ p' hl' hp hO hos hkbs hc hK
      unfold PW.readV at hrd
      rw [Bool.and_eq_true] at hrd
      refine FWX.readV (r := r) hidx hd' (fun k c oc hkc hoc => ?_) (fun j hj hlo hhi => ?_) ?_
      ·
       have h0 := hrd.1
       unfold holdV at h0
       have h1 := zipIdx_all h0 hkc
       simp only [hoc, Bool.or_eq_true, Bool.and_eq_true] at h1
       rcases h1 with (h1 | h1) | h1
       · exact .inl h1
       · exact .inr (.inl h1)
       · exact .inr (.inr ⟨keepsO_eq h1.1, look_keep hb h1.2⟩)
      ·
       have h1 := List.all_eq_true.1 hrd.2 j (List.mem_range.2 (by omega))
       simp only [Bool.or_eq_true, Nat.beq_eq, Bool.not_eq_true'] at h1
       have key : ∀ (t : Nat), get (mk b nt { s with O := O0 }).tmps t = get (mk b nt s).tmps t := fun _ => rfl
       show Yields P ops o nt (os.getD j []) (get (mk b nt s).tmps) r
       rcases h1 with (h1 | h1) | h1
       ·
        subst h1
        rw [← hO]
        exact s8 IH hb hz hsl (hgc s.O) hr
       ·
        exfalso
        have : mayV ops cs o i j = true := by
         unfold mayV
         rw [List.all_eq_true]
         rintro ⟨c, k⟩ hx
         have hkc : cs[k]? = some c := by
          obtain ⟨n, hn⟩ := List.mem_iff_getElem?.1 hx
          simp only [List.getElem?_zipIdx, Nat.zero_add, Option.map_eq_some_iff, Prod.mk.injEq] at hn
          obtain ⟨a, h1, rfl, rfl⟩ := hn
          exact h1
         simp only [Bool.and_eq_true, Bool.or_eq_true, Bool.not_eq_true', Nat.blt_eq]
         refine ⟨?_, ?_⟩
         ·
          cases hbd : v6 o c with
          | false => exact .inl rfl
          | true => exact .inr (hlo k c hkc hbd)
         ·
          cases hoc : ops[c]? with
          | none => rfl
          | some oc =>
           simp only [Bool.or_eq_true, Bool.not_eq_true', Nat.ble_eq]
           cases hbd : v6 oc i with
           | false => exact .inl rfl
           | true => exact .inr (hhi k c oc hkc hoc hbd)
        rw [this] at h1; cases h1
       · exact still_V IH hb hz hsl (hgc _) hr h1
      · exact (n8 (s := { s with O := O0 }) (v := r) hb (r8 hz) hd) ▸ ihh
     · cases h
    · cases h
  · cases h

theorem frontV_g {ops : List Oper} {n : Nat} (h : frontV P tb ih m nt ops n s = some s') : s'.g = s.g := by
 unfold frontV at h
 split at h
 ·
  split at h
  ·
   rename_i hp
   split at h
   · cases h; have := passV_g _ _ _ hp; exact this
   · cases h
  · cases h
 · cases h
theorem frontV_sound (IH : ∀ t o, ih t = some o → Snd P t o) (hm : P.follows .mixedOrders = true) (hb : Fits m b) {l : List Oper} {n id : Nat} (hB : Region.lexTailB .any l.toArray n = true) (h : frontV P tb ih m nt l n s = some s') :
  s'.g = s.g ∧ ∀ Q : Exit → Env → Prop, (∀ K : Env → Prop, (∀ env', Q .normal env' → K env') → OW b.ro P l (l.drop n) (mk b nt s') K) → PW b.ro P (.region id l.toArray true) Q (mk b nt s) := by
 refine ⟨frontV_g h, fun Q hQ => ?_⟩
 unfold frontV at h
 split at h
 ·
  rename_i hc
  simp only [Bool.and_eq_true, dstsB, decide_eq_true_eq, List.all_eq_true] at hc
  obtain ⟨⟨hnd, hdl⟩, hd0⟩ := hc
  have hclr := fun t => Tr.get_clear (dsts (l.take n)) s.T t fun d hd => (dstB_t (hdl d hd)).2
  split at h
  ·
   rename_i p hp
   split at h
   ·
    rename_i hck
    cases h
    simp only [Bool.and_eq_true] at hck
    obtain ⟨hch, hck⟩ := hck
    refine PW.weaken (env' := mk b nt { s with T := s.T.clear (dsts (l.take n)) }) (Nat.le_refl _) rfl (fun t => ?_) ?_ rfl rfl
    ·
     simp only [mk]
     rw [s6, s6]
     split
     ·
      unfold Base.slot
      split
      ·
       simp only [hclr t]; split
       · exact .inr rfl
       · exact .inl rfl
      ·
       dsimp only
       split
       · exact .inl rfl
       ·
        simp only [hclr t]; split
        · exact .inr rfl
        · exact .inl rfl
     · exact .inl rfl
    ·
     refine PW.drawX n (p.es.map (·.1)) (fun j => (s.O :: p.es.map (·.2.1)).getD j []) (fun j => killO ((p.es.map (·.2.2)).getD j none)) hm hB (fun i hi => ?_) (chained_of hch) (fun _ => killO_dead _) hnd (fun t ht => ?_) rfl ?_ fun K hK => ?_
     · exact chainV_n _ hch i hi
     ·
      simp only [mk]
      rw [s6]
      split
      ·
       rw [slot_out (s := { s with T := s.T.clear (dsts (l.take n)) }) (dst0_t hb (hd0 t ht))]
       exact (hclr t).trans (if_pos (by simpa [dsts] using ht))
      · rfl
     ·
      simp only [mk, A5, List.all_map, List.all_eq_true, Function.comp, decide_eq_true_eq, List.mem_range]
      exact fun x hx => decide_eq_true hx
     ·
      have hK2 := hQ K hK
      have hO := passV_O _ _ _ hp
      refine walkV (O0 := s.O) (K := fun env' => OW b.ro P l (l.drop n) { env' with objs := (s.O :: p.es.map (·.2.1)).getD (p.es.map (·.1)).length [] } K) IH hb (by simp) (l.take n) 0 0 { s with T := s.T.clear (dsts (l.take n)) } p (fun j hj => ?_) hp rfl rfl rfl hck ?_
      ·
       rw [List.length_take] at hj
       rw [List.getElem?_take_of_lt (by omega)]; simp
      ·
       have e : mk b nt p.s = { mk b nt { p.s with O := s.O } with objs := (s.O :: p.es.map (·.2.1)).getD (p.es.map (·.1)).length [] } := by
        rw [List.length_map, ← hO]; rfl
       rw [e] at hK2
       exact hK2
   · cases h
  · cases h
 · cases h

theorem passO_g {n0 : Nat} {es : List TypeId} {l : List Oper} : ∀ (i : Nat) (own wd : List Nat) (s : St) (acc : List Ob) (s2 : St) (acc2 : List Ob), passO P ih m nt all n0 es l i own wd s acc = some (s2, acc2) → s2.g = s.g := by
 induction l with
 | nil =>
  intro i own wd s acc s2 acc2 h
  cases own with
  | nil => simp only [passO, Option.some.injEq, Prod.mk.injEq] at h; rw [← h.1]
  | cons a l => simp [passO] at h
 | cons o l ihl =>
  intro i own wd s acc s2 acc2 h
  unfold passO at h
  repeat' split at h
  all_goals first
   | (cases h; done)
   | (have := ihl _ _ _ _ _ _ _ h; exact this)
theorem walkO (IH : ∀ t o, ih t = some o → Snd P t o) (hb : Fits m b) (hall : ops.toList = all) {n0 : Nat} {es : List TypeId} {O1 : List Ob} {KK : Env → List Ob → Prop} : ∀ (l : List Oper) (i : Nat) (own wd : List Nat) (s : St) (acc : List Ob) (s2 : St) (acc2 : List Ob),
  s.O = O1 → passO P ih m nt all n0 es l i own wd s acc = some (s2, acc2) → KK (mk b nt s2) acc2 → FWO P ops n0 es l i own wd (mk b nt s) acc KK
 | [], i, own, wd, s, acc, s2, acc2, hO, h, hK => by
  cases own with
  | nil =>
   simp only [passO, Option.some.injEq, Prod.mk.injEq] at h
   obtain ⟨rfl, rfl⟩ := h
   exact FWO.nil hK
  | cons a l => simp [passO] at h
 | o :: rest, i, own, wd, s, acc, s2, acc2, hO, h, hK => by
  unfold passO at h
  split at h
  ·
   rename_i hz
   simp only [Bool.and_eq_true] at hz
   obtain ⟨hsl, hz⟩ := hz
   have hd := D4 hsl
   have hd' : l5 (mk b nt s) o.dst := D9 hd rfl
   have hev : ∀ x ∈ o.op.operands.toList, ev (mk b nt s) x = s.ev x := fun x hx => ev_mk hb (no0_opd hz x hx) (G7 hsl x hx)
   split at h
   ·
    rename_i hown
    split at h
    ·
     rename_i e ho hg
     split at h
     ·
      rename_i sz by_ z ht
      split at h
      ·
       rename_i hc
       simp only [Bool.and_eq_true, decide_eq_true_eq, Nat.blt_eq] at hc
       have ihh := walkO IH hb hall rest (i + 1) own.tail wd _ _ s2 acc2 (by exact hO) h hK
       refine FWO.makes (headB_t hown) hc.1 (Makes.alloc ho hg ht hd' hc.2) ?_
       exact (n8 (v := V.ptr (n0 + acc.length) 0) hb (r8 hz) hd) ▸ ihh
      · cases h
     · cases h
    · cases h
   ·
    rename_i hown
    split at h
    ·
     rename_i t p v ho hg
     split at h
     ·
      rename_i k off sz by_ z hp ht
      split at h
      ·
       rename_i x hx
       split at h
       ·
        rename_i hc
        simp only [decide_eq_true_eq] at hc
        obtain ⟨hdn, hk, hw, hl, hle, h1⟩ := hc
        have ihh := walkO IH hb hall rest (i + 1) own _ s _ s2 acc2 hO h hK
        have ep : ev (mk b nt s) p = .ptr k off := (hev p (by rw [ho]; simp [Op.operands])).trans hp
        have ev' : ev (mk b nt s) v = s.ev v := hev v (by rw [ho]; simp [Op.operands])
        refine FWO.writes (y := { x with cells := PW.setMany x.cells off (r6 (s.ev v)) }) (headB_f hown) hx (memB_f hw) rfl ?_ ihh
        have := Writes.store (P := P) (ops := ops) (env := mk b nt s) ho hdn hg ep ht (x := x) (by rw [ev']; exact hl) hle (by rw [ev']; exact h1)
        rw [ev'] at this
        rw [show n0 + (k - n0) = k by omega]
        exact this
       · cases h
      · cases h
     · cases h
    ·
     split at h
     ·
      rename_i hgx
      split at h
      ·
       rename_i r hr
       have ihh := walkO IH hb hall rest (i + 1) own wd _ acc s2 acc2 (by exact hO) h hK
       refine FWO.yields (headB_f hown) (s8 IH hb hz hsl (by rw [hall]; exact guardX_C hb hgx) hr) ?_
       exact (n8 hb (r8 hz) hd) ▸ ihh
      · cases h
     ·
      rename_i hgx
      have ihh := walkO IH hb hall rest (i + 1) own wd _ acc s2 acc2 (by exact hO) h hK
      cases hgd : o.guard with
      | none => simp [guardX, hgd] at hgx
      | some gd =>
       obtain ⟨jg, want⟩ := gd
       refine FWO.yields (headB_f hown) (Yields.skipT hgd (by rw [hall]; exact guardX_C hb hgx jg want hgd) hd') ?_
       exact (n8 (v := gF) hb (r8 hz) hd) ▸ ihh
     · cases h
  · cases h
theorem pwB_lt : ∀ (l : List Nat) (a : Nat), pwB (a :: l) = true → ∀ x ∈ l, a < x
 | [], _, _ => by simp
 | b :: l, a, h => by
  simp only [pwB, Bool.and_eq_true, Nat.blt_eq] at h
  intro x hx
  rcases List.mem_cons.1 hx with rfl | hx
  · exact h.1
  · have := pwB_lt l b h.2 x hx; omega
theorem pwB_ok : ∀ (l : List Nat), pwB l = true → l.Pairwise (· < ·)
 | [], _ => List.Pairwise.nil
 | [a], _ => by simp
 | a :: b :: l, h => by
  refine List.Pairwise.cons (pwB_lt _ a h) (pwB_ok (b :: l) ?_)
  simp only [pwB, Bool.and_eq_true] at h
  exact h.2
theorem frontO_g {ops : List Oper} {n : Nat} (h : frontO P ih m nt ops n s = some s') : s'.g = s.g := by
 unfold frontO at h
 split at h
 ·
  split at h
  · rename_i hp; cases h; have := passO_g _ _ _ _ _ _ _ hp; exact this
  · cases h
 · cases h
theorem frontO_sound (IH : ∀ t o, ih t = some o → Snd P t o) (hm : P.follows .mixedOrders = true) (hb : Fits m b) {l : List Oper} {n id : Nat} (hB : Region.lexTailB .any l.toArray n = true) (h : frontO P ih m nt l n s = some s') :
  s'.g = s.g ∧ ∀ Q : Exit → Env → Prop, (∀ K : Env → Prop, (∀ env', Q .normal env' → K env') → OW b.ro P l (l.drop n) (mk b nt s') K) → PW b.ro P (.region id l.toArray true) Q (mk b nt s) := by
 refine ⟨frontO_g h, fun Q hQ => ?_⟩
 unfold frontO at h
 split at h
 ·
  rename_i hpw
  split at h
  ·
   rename_i s2 acc hp
   cases h
   refine D6 n ((ownsO (l.take n)).map (·.1)) ((ownsO (l.take n)).map (·.2)) hm hB (pwB_ok _ hpw) (by simp) fun K hK => ?_
   exact walkO (KK := fun env' obs => OW b.ro P l (l.drop n) { env' with objs := (mk b nt s).objs ++ obs } K) IH hb (by simp) (l.take n) 0 _ [] { s with O := s.O ++ ((ownsO (l.take n)).map (·.2)).map fun e => ⟨[], e⟩ } [] s2 acc rfl hp (hQ K hK)
  · cases h
 · cases h

theorem regionX_sound (IH : ∀ t o, ih t = some o → Snd P t o) (hm : P.follows .mixedOrders = true) (hb : Fits m b) {ops : List Oper} {id : Nat} {draw : Bool} (h : regionX P tb ih m nt id ops draw s = some s') :
  s'.g = s.g ∧ ∀ Q : Exit → Env → Prop, Q .normal (mk b nt s') → PW b.ro P (.region id ops.toArray draw) Q (mk b nt s) := by
 unfold regionX at h
 simp only [] at h
 have F : ∀ s0, (if hasSl P ops then frzX P ops s else s) = s0 → s0.g = s.g ∧ ∀ Q, PW b.ro P (.region id ops.toArray draw) Q (mk b nt s0) → PW b.ro P (.region id ops.toArray draw) Q (mk b nt s) := by
  intro s0 h0
  subst h0
  split
  · exact ⟨frzX_g ops s, fun Q => (frzX_sound (P := P) (nt := nt) hb (c := .region id ops.toArray draw) (Q := Q) ops s).2⟩
  · exact ⟨rfl, fun Q h => h⟩
 generalize (if hasSl P ops then frzX P ops s else s) = s0 at h F
 have F := F s0 rfl
 suffices hs : s'.g = s0.g ∧ ∀ Q : Exit → Env → Prop, Q .normal (mk b nt s') → PW b.ro P (.region id ops.toArray draw) Q (mk b nt s0) from
  ⟨hs.1.trans F.1, fun Q hQ => F.2 Q (hs.2 Q hQ)⟩
 split at h
 ·
  rename_i hd
  subst hd
  split at h
  ·
   rename_i n hn
   split at h
   ·
    split at h
    ·
     rename_i s1 h1
     have r1 := frontO_sound (id := id) IH hm hb (tailOf_spec hn) h1
     have r2 := opsX_sound (all := ops) IH hb _ _ h
     refine ⟨r2.1.trans r1.1, fun Q hQ => r1.2 Q fun K hK => r2.2 K (hK _ hQ)⟩
    · cases h
   split at h
   ·
    split at h
    ·
     rename_i s1 h1
     have r1 := frontV_sound (id := id) IH hm hb (tailOf_spec hn) h1
     have r2 := opsX_sound (all := ops) IH hb _ _ h
     refine ⟨r2.1.trans r1.1, fun Q hQ => r1.2 Q fun K hK => r2.2 K (hK _ hQ)⟩
    · cases h
   split at h
   ·
    split at h
    ·
     rename_i s1 h1
     have r1 := frontX_sound (all := ops) IH hb _ _ h1
     have r2 := opsX_sound (all := ops) IH hb _ _ h
     refine ⟨r2.1.trans r1.1, fun Q hQ => ?_⟩
     exact PW.regionDraw (K := fun env => env = mk b nt s') n hm (tailOf_spec hn) (r1.2 _ (r2.2 _ rfl)) (fun env' he => by rw [he]; exact hQ)
    · cases h
   ·
    rename_i e hE
    split at h
    ·
     rename_i s1 h1
     have r1 := frontW_sound (id := id) IH hm hb (tailOf_spec hn) hE h1
     have r2 := opsX_sound (all := ops) IH hb _ _ h
     refine ⟨r2.1.trans r1.1, fun Q hQ => r1.2 Q fun K hK => r2.2 K (hK _ hQ)⟩
    · cases h
   · cases h
  · cases h
 ·
  rename_i hd
  have r := opsX_sound (all := ops) IH hb _ _ h
  refine ⟨r.1, fun Q hQ => ?_⟩
  have : draw = false := by simpa using hd
  subst this
  exact PW.region (K := fun env => env = mk b nt s') (r.2 _ rfl) (fun env' he => by rw [he]; exact hQ)
end
end Go.PW

namespace Go.PW
open Go.RowKit
section
variable {P : Program} {B : Nat} {w0 : World} {S0 : Nat → Prop} {φ : Nat → Option Nat} {env : Env} {a : Act} {w : World}

theorem flat_nz {S : Nat → Prop} {x : D} {u : Value} (h : isValD x = true) (hr : RepD w S x u) {S' : Nat → Prop} : RepD w S' (nz x) u := nz_rep (RepD.flat x u h hr)

theorem fresh_rep (h : Rel B w0 S0 φ env a w) : ∀ (k : Nat) (v : V) (u : Value), RepV w (Imm B S0 φ env.objs.length) φ env.objs.length v u → okD env.objs k v → A8 env.objs k v = true → RepD w (fun b => B ≤ b) (toD env.objs k v) u := by
 intro k
 induction k with
 | zero =>
  intro v u hv hok hf
  cases v with
  | d x => simp only [toD]; exact flat_nz (by simpa [A8] using hf) hv.repD
  | _ => simp only [okD] at hok
 | succ k ih =>
  intro v u hv hok hf
  have hcells : ∀ i g, i < env.objs.length → φ i = some g → ∃ cur e vals rest, w.heap[g]? = some (.cells cur e (0, 0)) ∧ cur.toList = vals ++ rest ∧ RepVs w (Imm B S0 φ env.objs.length) φ env.objs.length (cellsOf env.objs i) vals := by
   intro i g hi hg
   have hob : env.objs[i]? = some env.objs[i] := by simp [hi]
   unfold cellsOf
   rw [hob]
   rcases h.objs i _ hob with ⟨h0, _⟩ | ⟨g', cur, vals, rest, hg', hh, hcur, hvs⟩
   · rw [hg] at h0; cases h0
   · rw [hg] at hg'; cases hg'; exact ⟨cur, _, vals, rest, hh, hcur, hvs⟩
  cases v with
  | d x => simp only [toD]; exact flat_nz (by simpa [A8] using hf) hv.repD
  | own i off n sz =>
   simp only [okD] at hok
   simp only [A8, List.all_eq_true] at hf
   simp only [toD, RepD]
   simp only [RepV] at hv
   obtain ⟨hi, ⟨ad, rfl, rfl, _⟩ | ⟨g, cap, cur, e, hg, rfl, hn, hm, hh, hroom⟩⟩ := hv
   · exact ⟨ad, 0, rfl, Nat.le_refl _, .inl (by simp [seg])⟩
   ·
    refine ⟨_, _, rfl, hn, .inr ⟨g, off, rfl, ?_⟩⟩
    obtain ⟨cur', e', vals, rest, hh', hcur, hvs⟩ := hcells i g hi hg
    have hvl := RepVs.length _ _ hvs
    refine F0 (h.low i g hi hg) (l8 _ _ _ (hvs.seg off (n * sz)) fun v hv u hu => ih v u hu (hok.2 v hv) (hf v hv)) fun j u hu => ?_
    have hj : j < n * sz := by
     have := (List.getElem?_eq_some_iff.1 hu).1
     simp only [seg, List.length_take] at this; omega
    rw [seg, List.getElem?_take, if_pos hj, List.getElem?_drop] at hu
    rw [p4 hh', ← Array.getElem?_toList, hcur, List.getElem?_append_left (by omega)]
    exact hu
  | ptr i off =>
   simp only [okD] at hok
   simp only [A8, List.all_eq_true] at hf
   simp only [toD, RepD]
   simp only [RepV] at hv
   obtain ⟨hi, g, hg, rfl⟩ := hv
   refine ⟨g, off, rfl, ?_⟩
   obtain ⟨cur', e', vals, rest, hh', hcur, hvs⟩ := hcells i g hi hg
   have hvl := RepVs.length _ _ hvs
   have hdr : RepVs w (Imm B S0 φ env.objs.length) φ env.objs.length ((cellsOf env.objs i).drop off) (vals.drop off) := by
    have := hvs.seg off (cellsOf env.objs i).length
    simpa [seg, List.take_of_length_le, hvl] using this
   refine F0 (h.low i g hi hg) (l8 _ _ _ hdr fun v hv u hu => ih v u hu (hok v hv) (hf v hv)) fun j u hu => ?_
   rw [List.getElem?_drop] at hu
   rw [p4 hh', ← Array.getElem?_toList, hcur, List.getElem?_append_left ((List.getElem?_eq_some_iff.1 hu).1)]
   exact hu
  | clo f caps =>
   simp only [okD] at hok
   simp only [A8, List.all_eq_true] at hf
   simp only [RepV] at hv
   obtain ⟨vs, rfl, hr⟩ := hv
   simp only [toD, RepD]
   exact ⟨vs, rfl, l8 _ _ _ hr fun v hv u hu => ih v u hu (hok v hv) (hf v hv)⟩
  | agg cells =>
   simp only [okD] at hok
   simp only [A8, List.all_eq_true] at hf
   simp only [RepV] at hv
   obtain ⟨vs, rfl, hr⟩ := hv
   simp only [toD, RepD]
   exact ⟨vs, rfl, l8 _ _ _ hr fun v hv u hu => ih v u hu (hok v hv) (hf v hv)⟩
  | tup cells =>
   simp only [okD] at hok
   simp only [A8, List.all_eq_true] at hf
   simp only [RepV] at hv
   obtain ⟨vs, rfl, hr⟩ := hv
   simp only [toD, RepD]
   exact ⟨vs, rfl, l8 _ _ _ hr fun v hv u hu => ih v u hu (hok v hv) (hf v hv)⟩
  | guarded c r => simp only [okD] at hok
  | dead => simp only [okD] at hok
  | slf i => simp only [okD] at hok
  | emp => simp only [okD] at hok
  | bnd f x => simp only [okD] at hok

theorem freshB_d {objs : List Ob} {k : Nat} {x : D} (h : A8 objs k (.d x) = true) : isValD x = true := by cases k <;> simpa [A8] using h
theorem fresh_res (h : Rel B w0 S0 φ env a w) (k : Nat) (v : V) (u : Value) (hv : RepV w (Imm B S0 φ env.objs.length) φ env.objs.length v u) (hok : okD env.objs k v) (hf : A8 env.objs k v = true) : RepD w (fun b => B ≤ b) (resD env.objs k v) u := by
 have h1 : ∀ (k : Nat) (v : V) (u : Value), RepV w (Imm B S0 φ env.objs.length) φ env.objs.length v u → okD env.objs k v → A8 env.objs k v = true → RepD w (fun b => B ≤ b) (res1 env.objs k v) u := by
  intro k v u hv hok hf
  cases v with
  | d x => exact RepD.flat x u (freshB_d hf) hv.repD
  | _ => exact fresh_rep h k _ u hv hok hf
 unfold resD
 split
 ·
  rename_i k vs
  simp only [okD] at hok
  simp only [A8, List.all_eq_true] at hf
  simp only [RepV] at hv
  obtain ⟨us, rfl, hr⟩ := hv
  simp only [RepD]
  exact ⟨us, rfl, l8 _ _ _ hr fun v hv u hu => h1 k v u hu (hok v hv) (hf v hv)⟩
 · exact h1 _ _ _ hv hok hf
theorem res_rep (h : Rel B w0 S0 φ env a w) {S' : Nat → Prop} (hI : ∀ b, Imm B S0 φ env.objs.length b → S' b) (hO : ∀ i g, i < env.objs.length → φ i = some g → S' g) (k : Nat) (v : V) (u : Value) (hv : RepV w (Imm B S0 φ env.objs.length) φ env.objs.length v u) (hok : okD env.objs k v) : RepD w S' (resD env.objs k v) u := by
 have h1 : ∀ (k : Nat) (v : V) (u : Value), RepV w (Imm B S0 φ env.objs.length) φ env.objs.length v u → okD env.objs k v → RepD w S' (res1 env.objs k v) u := by
  intro k v u hv hok
  cases v with
  | d x => exact RepD.mono (w' := w) (S' := S') (fun b o y hb hy => ⟨hy, hI b hb⟩) x u hv.repD
  | _ => exact toD_rep h hI hO k _ u hv hok
 unfold resD
 split
 ·
  rename_i k vs
  simp only [okD] at hok
  simp only [RepV] at hv
  obtain ⟨us, rfl, hr⟩ := hv
  simp only [RepD]
  exact ⟨us, rfl, l8 _ _ _ hr fun v hv u hu => h1 k v u hu (hok v hv)⟩
 · exact h1 _ _ _ hv hok
theorem RetOK.res {env : Env} {v : V} (k : Nat) (hok : okD env.objs k v) : RetOK env v (.d (resD env.objs k v)) [] := by
 intro B w0 S0 φ a w hr u hu
 refine ⟨fun _ => none, ?_, fun i ob h => by simp at h, fun i g h => by simp at h, fun i j g h => by simp at h⟩
 simp only [RepV]
 exact res_rep hr (fun b hb => ⟨hb.1, fun i hi => by simp at hi⟩) (fun i g hi hg => ⟨.inr (hr.low i g hi hg), fun i hi => by simp at hi⟩) k v u hu hok

theorem CallF.of_PW {f : FuncId} {fn : Func} {c : Code} {ds : List D} {x : D} {rs : List ResultVar} {nt : Nat} (hf : P.funcs[f]? = some fn) (hb : fn.body = some c) (hrs : fn.results.toList = rs) (hnt : fn.ntmps = nt)
  (hcall : ∀ args w, (callFunc f args).run P w = .ok (.enter f args) w)
  (h : PW none P c (fun e env => (e = .normal ∨ e = .ret) ∧ (resV P rs env).1 ∧ ∃ k, okD env.objs k (resV P rs env).2 ∧ A8 env.objs k (resV P rs env).2 = true ∧ resD env.objs k (resV P rs env).2 = x) (n7 nt ds)) : CallF P f ds x := by
 refine ⟨hcall, fun w S vs hgi hvs => (F9 (ro := none) (n := 1)).1 (callsIn_of_wp_marks hf hb trivial ?_ rfl)⟩
 have hl := RepAll.length _ _ hvs
 have hrel : Rel w.heap.size w S (fun _ => none) (n7 nt ds) { tmps := vs.toArray ++ Array.replicate (fn.ntmps - vs.toArray.size) undef, defers := [] } w := by
  refine ⟨Below.refl _ _, ⟨Nat.le_refl _, hgi⟩, Marks.nil _ _ _, ?_, ?_, ?_, ?_, ?_, ?_⟩
  · simp [n7]; omega
  ·
   intro t
   simp only [n7, get_start, Nat.zero_le, if_true, Nat.sub_zero]
   cases hd : ds[t]? with
   | none => simp [RepV]
   | some d =>
    have ht : t < ds.length := (List.getElem?_eq_some_iff.1 hd).1
    have h1 := RepAll.get _ _ hvs t ht
    simp only [RepV]
    have e1 : (vs.toArray ++ Array.replicate (fn.ntmps - vs.toArray.size) undef).getD t undef = vs.getD t undef := by
     simp only [Array.getD_eq_getD_getElem?, List.getD_eq_getElem?_getD]
     rw [Array.getElem?_append_left (by simp; omega)]
     simp
    have e2 : ds.getD t default = d := by simp [List.getD_eq_getElem?_getD, hd]
    rw [e1]
    rw [e2] at h1
    refine RepD.mono (S := S) (w := w) (fun b o x hb hc => ⟨hc, .inl hb, fun i hi => ?_⟩) d _ h1
    simp at hi
  · intro i ob hi; simp [n7] at hi
  · intro i g hi; simp [n7] at hi
  · intro i j g hi; simp [n7] at hi
  · exact ⟨Nat.zero_le _, fun x hx => by simp [n7] at hx⟩
 refine wpIn_mono (h w.heap.size w S (fun _ => none) _ w hrel) ?_
 rintro e a w' ⟨env', φ', ⟨he, hv, k, hok, hfr, hx⟩, hr'⟩
 have hpost : LeavesInM (Fd none) 1 P fn a.tmps (fun e w' => ∃ v, e = .returned v ∧ Below w.heap.size w w' ∧ RepD w' (fun b => w.heap.size ≤ b) x v) a.defers .returning w' := by
  obtain ⟨Ds, hDs, _⟩ := hr'.nodef.2.1
  obtain ⟨tmps, defers⟩ := a
  simp only at hDs
  subst hDs
  refine leaves_marks (env := env'.plain) rfl (fun w2 hr2 => ?_) Ds w' hr'.plain
  have hv2 : (resV P rs env'.plain) = resV P rs env' := rfl
  obtain ⟨u, hu, hrep⟩ := run_results (P := P) (fn := fn) hr2 (by rw [hrs, hv2]; exact hv)
  rw [hrs, hv2] at hrep
  refine ⟨u, hu, u, rfl, hr2.below, ?_⟩
  rw [← hx]
  exact fresh_res (env := env'.plain) hr2 k _ u hrep hok hfr
 rcases he with rfl | rfl <;> exact hpost
end
end Go.PW

namespace Go.PW
open Go.RowKit

structure TabOK (P : Program) (tb : Tab) : Prop where
 mixed : P.follows .mixedOrders = true
 calls : ∀ f ∈ tb.fns, ∀ args w, (callFunc f args).run P w = .ok (.enter f args) w
 lib : ∀ f ds r obs, tb.lib f ds = some (r, obs) → CallOK P f ds r obs
 libM : ∀ f args O r O' ks, tb.libM f args O = some (r, O', ks) → CallM P f args O r O' ks

section
variable {P : Program} {m : Md} {b : Base} {nt : Nat} {s s' : St} {tb : Tab}

theorem jOut {j : Nat} {out : Out} {S : St} (h : (if j = 0 then some (Out.code .normal S) else if j = 1 then some (Out.code .ret S) else some (Out.code (.exit (j - 2)) S)) = some out) :
  ∃ e, out = .code e S ∧ (j = 0 → e = .normal) ∧ (j ≠ 0 → (pendX j = some .ret ∧ e = .ret) ∨ ∃ id, pendX j = some (.exit id) ∧ e = .exit id) := by
 by_cases h0 : j = 0
 · subst h0; simp only [if_true, Option.some.injEq] at h; exact ⟨_, h.symm, fun _ => rfl, fun h => absurd rfl h⟩
 ·
  rw [if_neg h0] at h
  by_cases h1 : j = 1
  · subst h1; simp only [if_true, Option.some.injEq] at h; exact ⟨_, h.symm, fun h => absurd h (by decide), fun _ => .inl ⟨rfl, rfl⟩⟩
  ·
   rw [if_neg h1] at h
   simp only [Option.some.injEq] at h
   exact ⟨_, h.symm, fun h => absurd h h0, fun _ => .inr ⟨j - 2, by simp [pendX, h1], rfl⟩⟩

theorem frontW_g {ih : Task → Option Out} {ops : List Oper} {n e : Nat} (h : frontW P ih m nt ops n e s = some s') : s'.g = s.g := by
 unfold frontW at h
 split at h
 ·
  simp only [] at h
  split at h
  ·
   split at h
   ·
    split at h
    ·
     split at h
     ·
      rename_i hfe
      cases h
      exact (frontE_O _ _ _ _ hfe).1
     · cases h
    · cases h
   · cases h
  · cases h
 · cases h
theorem regionX_g {ih : Task → Option Out} (IH : ∀ t o, ih t = some o → Snd P t o) {id : Nat} {ops : List Oper} {draw : Bool} (h : regionX P tb ih m nt id ops draw s = some s') : s'.g = s.g := by
 unfold regionX at h
 simp only [] at h
 have F : ∀ s0, (if hasSl P ops then frzX P ops s else s) = s0 → s0.g = s.g := by
  intro s0 h0
  subst h0
  split
  · exact frzX_g ops s
  · rfl
 generalize (if hasSl P ops then frzX P ops s else s) = s0 at h F
 rw [← F s0 rfl]
 split at h
 ·
  split at h
  ·
   split at h
   ·
    split at h
    · rename_i h1; exact (opsX_g IH _ _ h).trans (frontO_g h1)
    · cases h
   split at h
   ·
    split at h
    · rename_i h1; exact (opsX_g IH _ _ h).trans (frontV_g h1)
    · cases h
   split at h
   ·
    split at h
    · rename_i h1; exact (opsX_g IH _ _ h).trans (frontX_g _ _ h1)
    · cases h
   ·
    split at h
    · rename_i h1; exact (opsX_g IH _ _ h).trans (frontW_g h1)
    · cases h
   · cases h
  · cases h
 · exact opsX_g IH _ _ h

theorem get_ofL1 {caps : List V} (h : caps.length ≤ 500) (t : Nat) : (Tr.ofL 1 caps .nil).get t = if t = 0 then .dead else caps.getD (t - 1) .dead := by
 rw [Tr.get_ofL _ _ _ _ (by omega)]
 by_cases h0 : t = 0
 · subst h0; rw [if_neg (by omega), if_pos rfl]; rfl
 ·
  rw [if_neg h0]
  split
  · rfl
  · rw [List.getD_eq_getElem?_getD, List.getElem?_eq_none (by omega)]; rfl
theorem get_ofL0 {vs : List V} (h : vs.length ≤ 500) (t : Nat) : (Tr.ofL 0 vs .nil).get t = vs.getD t .dead := by
 rw [Tr.get_ofL _ _ _ _ (by omega)]
 split
 · rfl
 · rw [List.getD_eq_getElem?_getD, List.getElem?_eq_none (by omega)]; rfl

theorem start_slots {nt t : Nat} {vs : List V} (h : vs.length ≤ 500) {f : Nat → V} (hf : f = (Tr.ofL 0 vs .nil).get) : get (A5 nt f) t = get ((vs.zipIdx).map fun x => (x.2, x.1)) t ∨ get (A5 nt f) t = .dead := by
 subst hf
 rw [s6, get_pairs, if_pos (Nat.zero_le _)]
 split
 · exact .inl (get_ofL0 h t)
 · exact .inr rfl

theorem startE_slots {nt t : Nat} {ds : List D} (h : ds.length ≤ 500) {f : Nat → V} (hf : f = (Tr.ofL 0 (ds.map V.d) .nil).get) : get (A5 nt f) t = get (n7 nt ds).tmps t ∨ get (A5 nt f) t = .dead := by
 have h1 := start_slots (nt := nt) (t := t) (vs := ds.map V.d) (by simpa using h) hf
 rw [List.zipIdx_map, List.map_map] at h1
 exact h1

theorem codeX_sound (T : TabOK P tb) {n : Nat} (IH : ∀ k, k ≤ n → ∀ t o, runX P tb k t = some o → Snd P t o) {c : Code} {out : Out} (h : codeX P tb (runX P tb n) m nt c s = some out) : Snd P (.code m nt c s) out := by
 have IHn := IH n (Nat.le_refl _)
 unfold codeX at h
 split at h
 · cases h; exact ⟨rfl, fun b Q hb hQ => d8 hQ⟩
 · cases h; exact ⟨rfl, fun b Q hb hQ => PW.label hQ⟩
 · cases h; exact ⟨rfl, fun b Q hb hQ => o6 hQ⟩
 · cases h; exact ⟨rfl, fun b Q hb hQ => d7 hQ⟩
 ·
  -- seq
  rename_i x y
  unfold seqX at h
  split at h
  ·
   rename_i s1 h1
   have r1 := IHn _ _ h1
   have r2 := IHn _ _ h
   cases out with
   | code e s2 => exact ⟨r2.g.trans r1.g, fun b Q hb hQ => b7 (r1.code b _ hb (r2.code b Q hb hQ))⟩
   | _ => trivial
  ·
   rename_i hne
   have r1 := IHn _ _ h
   cases out with
   | code e s2 =>
    refine ⟨r1.g, fun b Q hb hQ => b7 (r1.code b _ hb ?_)⟩
    cases e with
    | normal => exact (hne s2 h).elim
    | _ => exact hQ
   | _ => trivial
 ·
  -- block
  rename_i id x
  unfold blockX at h
  split at h
  ·
   rename_i id' s1 h1
   have r1 := IHn _ _ h1
   split at h
   ·
    rename_i hid
    cases h
    refine ⟨r1.g, fun b Q hb hQ => PW.block (r1.code b _ hb ?_)⟩
    simp only [inBlock, if_pos hid]; exact hQ
   ·
    rename_i hid
    cases h
    refine ⟨r1.g, fun b Q hb hQ => PW.block (r1.code b _ hb ?_)⟩
    simp only [inBlock, if_neg hid]; exact hQ
  ·
   rename_i hne
   have r1 := IHn _ _ h
   cases out with
   | code e s2 =>
    refine ⟨r1.g, fun b Q hb hQ => PW.block (r1.code b _ hb ?_)⟩
    cases e with
    | exit id' => exact (hne id' s2 h).elim
    | _ => exact hQ
   | _ => trivial
 ·
  -- cond
  rename_i o x y
  unfold condX at h
  split at h
  ·
   rename_i hz
   rw [Bool.and_eq_true] at hz
   split at h
   ·
    rename_i bv hev
    have r1 := IHn _ _ h
    cases out with
    | code e s2 =>
     refine ⟨r1.g, fun b Q hb hQ => d5 ((ev_mk hb hz.2 hz.1).trans hev) (fun hb1 => ?_) (fun hb1 => ?_)⟩
     · subst hb1; exact r1.code b Q hb hQ
     · subst hb1; exact r1.code b Q hb hQ
    | _ => trivial
   · cases h
  · cases h
 ·
  -- loop
  rename_i x
  cases out with
  | code e s2 =>
   have key : ∀ k, k ≤ n + 1 → ∀ (s : St), runX P tb k (.code m nt (.loop x) s) = some (.code e s2) → s2.g = s.g := by
    intro k
    induction k with
    | zero => intro _ s h; cases h
    | succ k ihk =>
     intro hk s h
     rw [runX_succ] at h
     simp only [taskX, codeX, loopX] at h
     split at h
     ·
      rename_i s1 h1
      exact (ihk (by omega) s1 h).trans (IH k (by omega) _ _ h1).g
     · exact (IH k (by omega) _ _ h).g
   have h0 : runX P tb (n + 1) (.code m nt (.loop x) s) = some (.code e s2) := by rw [runX_succ]; simp only [taskX, codeX]; exact h
   refine ⟨key (n + 1) (Nat.le_refl _) s h0, fun b Q hb hQ => ?_⟩
   refine PW.loopOf (σ := Nat × St) (fun σ => mk b nt σ.2) (fun σ => σ.1 ≤ n ∧ runX P tb (σ.1 + 1) (.code m nt (.loop x) σ.2) = some (.code e s2)) (fun σ => σ.1) (n, s) rfl ⟨Nat.le_refl _, h0⟩ ?_
   rintro ⟨k, s⟩ ⟨hk, h⟩
   simp only at hk h ⊢
   rw [runX_succ] at h
   simp only [taskX, codeX, loopX] at h
   split at h
   ·
    rename_i s1 h1
    refine (IH k hk _ _ h1).code b _ hb ?_
    cases k with
    | zero => cases h
    | succ k => exact ⟨(k, s1), rfl, ⟨by simp only; omega, h⟩, by simp⟩
   ·
    rename_i hne
    refine (IH k hk _ _ h).code b _ hb ?_
    cases e with
    | normal => exact (hne s2 h).elim
    | _ => exact hQ
  | _ => trivial
 ·
  -- region
  rename_i id ops draw
  unfold regX at h
  split at h
  ·
   rename_i s1 h1
   cases h
   refine ⟨regionX_g IHn h1, fun b Q hb hQ => ?_⟩
   have r := (regionX_sound (id := id) IHn T.mixed hb h1).2 Q hQ
   simpa using r
  · cases h
 ·
  -- a loop over a function
  rename_i g ps assign body
  unfold rangeX at h
  split at h
  ·
   split at h
   ·
    rename_i gf caps hcl
    split at h
    ·
     rename_i hfn
     simp only [Bool.and_eq_true, List.all_eq_true, decide_eq_true_eq] at hfn
     obtain ⟨⟨⟨hsg, hfn⟩, hpl⟩, hcap⟩ := hfn
     split at h
     ·
      rename_i fn hf
      split at h
      ·
       rename_i cg hb1 hres
       split at h
       ·
        rename_i e s1 h1
        split at h
        ·
         rename_i he
         obtain ⟨e', rfl, h0, hj⟩ := jOut h
         refine ⟨rfl, fun b Q hb hQ => ?_⟩
         obtain ⟨hro, hz, hth⟩ := id hb
         rw [hro]
         refine PW.rangeK pendX (by simp only [mk, hth]) (by rw [ev_mk hb (by cases g <;> rfl) hsg]; exact hcl) hf hb1 hres rfl (T.calls gf (by simpa using hfn)) ?_
         intro c hps has hbd hpd hnt
         obtain ⟨b1, e1⟩ : ∃ b1 : Base, b1 = ⟨none, some c.L, toG (mk b nt s).tmps c.ts (mk b nt s).objs.length ++ (mk b nt s).gs.2, fun j _ => (c.th j, false)⟩ := ⟨_, rfl⟩
         have hslot : b.slot s = s.T.get := by funext t; simp only [Base.slot, hz]
         have f1 : Fits (.iter ⟨s.T, nt, ps.toList, assign, body⟩) b1 := by
          subst e1
          exact ⟨c, (mk b nt s).objs.length, (mk b nt s).gs.2, ⟨rfl, rfl, by rw [hps], has, hbd, hpd, hnt, fun p hp => dstB_t (hpl p hp), by simp only [mk, hslot], rfl⟩⟩
         have hkill0 : ∀ (G : Gh), (G.map fun x => (k9 [] x.1, x.2)) = G := fun G => (List.map_congr_left fun x _ => rfl).trans (List.map_id _)
         have hgs1 : s1.g = s.O.length := (IHn _ _ h1).g
         have k1 := (IHn _ _ h1).code b1 (fun e env1 => (e = .normal ∨ e = .ret) ∧ ∃ j ks, env1.th = (c.th j, false) ∧ env1.gs = ((mk b nt s).objs.length, killG ks (toG (mk b nt s).tmps c.ts (mk b nt s).objs.length ++ (mk b nt s).gs.2)) ∧
          (j = 0 → Q .normal ((mk b nt s).behindK ks env1.objs (fun _ _ => True, true))) ∧ (j ≠ 0 → (pendX j = some .ret ∧ Q .ret ((mk b nt s).behindK ks env1.objs (fun _ _ => True, true))) ∨ ∃ id, pendX j = some (.exit id) ∧ Q (.exit id) ((mk b nt s).behindK ks env1.objs (fun _ _ => True, true)))) f1 ?_
         ·
          have hr1 : b1.ro = none := by subst e1; rfl
          rw [hr1] at k1
          refine PW.weaken (env' := mk b1 fn.ntmps { T := Tr.ofL 1 caps .nil, O := s.O, g := s.O.length, y := [0] }) (Nat.le_refl _) rfl (fun t => ?_) k1 ?_ ?_
          ·
           simp only [mk]
           rw [s6, get_pairs, if_pos (Nat.zero_le _)]
           split
           ·
            left
            have h1 : b1.it = some c.L := by subst e1; rfl
            by_cases h2 : t = 0
            ·
             subst h2
             exact slot_in h1 (by simp)
            ·
             refine (slot_out (.inr (by simpa using h2))).trans ((get_ofL1 hcap t).trans ?_)
             rw [if_neg h2]
             obtain ⟨k, rfl⟩ : ∃ k, t = k + 1 := ⟨t - 1, by omega⟩
             simp
           · exact .inr rfl
          ·
           subst e1
           have hk := hkill0 (toG (mk b nt s).tmps c.ts (mk b nt s).objs.length ++ (mk b nt s).gs.2)
           simp only [mk] at hk ⊢
           rw [hk]
          · subst e1; rfl
         ·
          have e3 : (mk b nt s).behindK s1.ks s1.O (fun _ _ => True, true) = mk b nt { T := s.kill s1.ks, O := s1.O, ks := s.ks ++ s1.ks, q := true, g := s.g, y := s.y } := kill_mk s1.ks s1.O 0 true (by rw [hth])
          refine ⟨endsB_or he, s1.j, s1.ks, by subst e1; rfl, by subst e1; simp only [mk, killG, hgs1], fun hj0 => ?_, fun hj0 => ?_⟩
          · rw [show (mk b1 fn.ntmps s1).objs = s1.O from rfl, e3, ← h0 hj0]; exact hQ
          ·
           rw [show (mk b1 fn.ntmps s1).objs = s1.O from rfl, e3]
           rcases hj hj0 with ⟨hp, rfl⟩ | ⟨id, hp, rfl⟩
           · exact .inl ⟨hp, hQ⟩
           · exact .inr ⟨id, hp, hQ⟩
        · cases h
       · cases h
      · cases h
     · cases h
    · cases h
   · cases h
  · cases h
 · cases h

theorem taskX_sound (T : TabOK P tb) {n : Nat} (IH : ∀ k, k ≤ n → ∀ t o, runX P tb k t = some o → Snd P t o) {t : Task} {out : Out} (h : taskX P tb (runX P tb n) t = some out) : Snd P t out := by
 have IHn := IH n (Nat.le_refl _)
 cases t with
 | code m nt c s => exact codeX_sound T IH h
 | call f ds =>
  simp only [taskX] at h
  split at h
  ·
   rename_i r obs hl
   cases h
   exact ⟨T.lib f ds r obs hl, fun h => by cases h⟩
  ·
   split at h
   ·
    rename_i hfn
    simp only [Bool.and_eq_true, decide_eq_true_eq] at hfn
    split at h
    ·
     rename_i fn hf
     split at h
     ·
      rename_i c hbd
      split at h
      ·
       rename_i e s h1
       split at h
       ·
        rename_i he
        split at h
        ·
         rename_i hres
         cases h
         obtain ⟨b, hb⟩ : ∃ b : Base, b = ⟨none, none, [], fun _ q => ((fun _ _ => True), q)⟩ := ⟨_, rfl⟩
         have hF : Fits .data b := by subst hb; exact ⟨rfl, rfl, rfl⟩
         have e2 := resV_mk (P := P) (b := b) (nt := fn.ntmps) (s := s) (by subst hb; rfl) hres.1
         have hres := hres.2
         have hcl := T.calls f (by simpa using hfn.1)
         refine ⟨i7 hf hbd rfl rfl hcl ?_, fun hfr => ⟨_, rfl, rfl, CallF.of_PW hf hbd rfl rfl hcl ?_⟩⟩
         ·
          have k := (IHn _ _ h1).code b (Ends P fn.results.toList (.d (resD s.O dep (resV P fn.results.toList (s.mini fn.ntmps (resOps fn.results.toList))).2)) []) hF ?_
          ·
           subst hb
           exact PW.weaken (env' := mk ⟨none, none, [], fun _ q => ((fun _ _ => True), q)⟩ fn.ntmps { T := Tr.ofL 0 (ds.map V.d) .nil, O := [] }) (Nat.le_refl _) rfl (fun t => startE_slots hfn.2 rfl) k rfl rfl
          ·
           refine Ends.intro (endsB_or he) ?_
           generalize hr : resV P fn.results.toList (mk b fn.ntmps s) = r at e2
           obtain ⟨c1, v⟩ := r
           rw [← e2] at hres ⊢
           exact ⟨hres.1, RetOK.res dep (okB_ok _ _ hres.2)⟩
         ·
          have k := (IHn _ _ h1).code b (fun e env => (e = .normal ∨ e = .ret) ∧ (resV P fn.results.toList env).1 ∧ ∃ k, okD env.objs k (resV P fn.results.toList env).2 ∧ A8 env.objs k (resV P fn.results.toList env).2 = true ∧ resD env.objs k (resV P fn.results.toList env).2 = resD s.O dep (resV P fn.results.toList (s.mini fn.ntmps (resOps fn.results.toList))).2) hF ?_
          ·
           subst hb
           exact PW.weaken (env' := mk ⟨none, none, [], fun _ q => ((fun _ _ => True), q)⟩ fn.ntmps { T := Tr.ofL 0 (ds.map V.d) .nil, O := [] }) (Nat.le_refl _) rfl (fun t => startE_slots hfn.2 rfl) k rfl rfl
          ·
           refine ⟨endsB_or he, by rw [e2]; exact hres.1, dep, ?_, ?_, ?_⟩
           · rw [e2]; exact okB_ok _ _ hres.2
           · rw [e2]; exact hfr
           · rw [e2]; rfl
        · cases h
       · cases h
      · cases h
     · cases h
    · cases h
   · cases h
 | callM f args O =>
  simp only [taskX] at h
  split at h
  ·
   rename_i r O' ks hl
   cases h
   exact T.libM f args O r O' ks hl
  ·
   split at h
   ·
    rename_i hfn
    simp only [Bool.and_eq_true, decide_eq_true_eq] at hfn
    split at h
    ·
     rename_i fn hf
     split at h
     ·
      rename_i c hbd
      split at h
      ·
       rename_i e s h1
       split at h
       ·
        rename_i he
        split at h
        ·
         rename_i hres
         cases h
         refine CallM.of_PW hf hbd rfl rfl (T.calls f (by simpa using hfn.1)) fun gs p => ?_
         obtain ⟨b, hb⟩ : ∃ b : Base, b = ⟨none, none, gs, fun _ _ => (p, false)⟩ := ⟨_, rfl⟩
         have hF : Fits .meth b := by subst hb; exact ⟨rfl, rfl, p, rfl⟩
         have hg := (IHn _ _ h1).g
         have k := (IHn _ _ h1).code b (EndsM P fn.results.toList (resV P fn.results.toList (s.mini fn.ntmps (resOps fn.results.toList))).2 s.O (O.length, gs.map fun x => (k9 s.ks x.1, x.2)) p) hF ?_
         ·
          subst hb
          have hkill0 : ∀ (G : Gh), (G.map fun x => (k9 [] x.1, x.2)) = G := fun G => (List.map_congr_left fun x _ => rfl).trans (List.map_id _)
          exact PW.weaken (env' := mk ⟨none, none, gs, fun _ _ => (p, false)⟩ fn.ntmps { T := Tr.ofL 0 args .nil, O := O, g := O.length }) (Nat.le_refl _) rfl (fun t => start_slots hfn.2 rfl) k (by simp only [mk, hkill0, startM]) rfl
         ·
          refine EndsM.intro (endsB_or he) ?_
          have e2 := resV_mk (P := P) (b := b) (nt := fn.ntmps) (s := s) (by subst hb; rfl) hres.1
          have hres := hres.2
          generalize hr : resV P fn.results.toList (mk b fn.ntmps s) = r at e2
          obtain ⟨c1, v⟩ := r
          rw [← e2] at hres ⊢
          simp only at hg
          exact ⟨hres, rfl, rfl, by subst hb; simp only [mk, hg], by subst hb; rfl⟩
        · cases h
       · cases h
      · cases h
     · cases h
    · cases h
   · cases h

theorem runX_sound (T : TabOK P tb) : ∀ n t o, runX P tb n t = some o → Snd P t o := by
 intro n
 induction n using Nat.strongRecOn with
 | _ n ih =>
  intro t o h
  cases n with
  | zero => cases h
  | succ n => exact taskX_sound T (fun k hk => ih k (by omega)) h

theorem D7 (T : TabOK P tb) (n : Nat) {f : FuncId} {ds : List D} {r : V} {obs : Obs} {fr : Bool} (h : runX P tb n (.call f ds) = some (.call r obs fr)) : CallOK P f ds r obs := (runX_sound T n _ _ h).1
end
end Go.PW
