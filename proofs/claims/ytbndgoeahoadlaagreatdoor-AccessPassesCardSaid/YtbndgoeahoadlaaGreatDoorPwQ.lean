import Derived.Test.YtbndgoeahoadlaaGreatDoorPwP
set_option linter.all false
namespace Go.PW
open Go.RowKit

def pureA0 (P : Program) (env : Env) (o : Oper) : Prop × V :=
 match o.op with
 | .call c => match c.callee, c.argTypes.toList, c.args.toList.map (ev env) with
  | .builtin .len, [t], [x] => lenF P t x
  | .builtin .min, _, [x, y] => minF x y
  | .builtin .max, _, [x, y] => maxF x y
  | .builtin .min, _, [x, y, z] => min3F x y z
  | .builtin .max, _, [x, y, z] => max3F x y z
  | _, _, _ => bad
 | .makeFunc (.func f) first caps => (first.toList = [], .clo f (caps.toList.map (ev env)))
 | .build t parts => buildF P t (parts.toList.map fun x => (x.1, ev env x.2))
 | op => opF P env op

def allD? : List V → Option (List D)
 | [] => some []
 | .d x :: l => match allD? l with | some r => some (x :: r) | none => none
 | _ :: _ => none
def buildD (P : Program) (env : Env) (t n : Nat) (parts : List (Nat × V)) : Prop × V :=
 match C4 P t with
 | some e => match F3 P e with
  | some (s, _, _) =>
   let r := fillV (fun i => some (i * s, s)) (List.replicate (n * s) .dead) parts
   match allD? r.2 with
   | some ds => ((r.1 ∧ n * s ≤ 16777216), .d (.list n ds))
   | none => bad
  | none => bad
 | none => bad
def makeD (P : Program) (t : TypeId) (l c : V) : Prop × V :=
 match l, c, C4 P t with
 | .d (.val (.int _ l)), .d (.val (.int _ c)), some e => match F3 P e with
  | some (s, bytes, [z]) => (0 ≤ l ∧ l ≤ c ∧ c * bytes ≤ 140737488355328 ∧ c ≤ 140737488355328 ∧ s = 1, .d (.list l.toNat (List.replicate l.toNat (.val z))))
  | _ => bad
 | _, _, _ => bad
def u3 (P : Program) (env : Env) (o : Oper) : Prop × V :=
 match o.op with
 | .buildSlice t n parts => buildD P env t n (parts.toList.map fun x => (x.1, ev env x.2))
 | .makeSlice t l c => makeD P t (ev env l) (ev env c)
 | _ => pureA0 P env o

def FW (P : Program) (ops : Array Oper) : List Oper → Env → (Env → Prop) → Prop
 | [], env, K => K env
 | o :: l, env, K => ∃ r, Yields P ops o env.nt env.objs (get env.tmps) r ∧ FW P ops l (putO env o.dst r) K

def preA (P : Program) (ds : List (Option Nat)) : List Oper → Env → Prop × Env × List Oper
 | [], env => (True, env, [])
 | o :: rest, env =>
  if isCallB o then (True, env, o :: rest) else
  match o.guard with
  | none => match u3 P env o with
   | (c, r) => match preA P ds rest (putO env o.dst r) with
    | (c', env'', l) => ((c ∧ l5 env o.dst) ∧ c', env'', l)
  | some gd => match u7 ds env.tmps (some gd) with
   | none => (False, env, [])
   | some g => match u3 P (env.under g) o with
    | (c, r) => match preA P ds rest (putO env o.dst (.guarded g r)) with
     | (c', env'', l) => (((g = true → c) ∧ l5 env o.dst) ∧ c', env'', l)

section
variable {P : Program} {B : Nat} {w0 : World} {S0 : Nat → Prop} {φ : Nat → Option Nat} {env env' : Env} {a : Act} {w w' : World}

theorem pureA0_sound (hr : Rel B w0 S0 φ env a w) {o : Oper} (hc : (pureA0 P env o).1) :
  ∃ v, (execOp a.eval o).run P w = .ok (.value v) w ∧ RepV w (Imm B S0 φ env.objs.length) φ env.objs.length (pureA0 P env o).2 v := by
 unfold pureA0 at hc ⊢
 split at hc
 ·
  rename_i c ho
  obtain ⟨callee, args, argTypes⟩ := c
  obtain ⟨args⟩ := args
  obtain ⟨argTypes⟩ := argTypes
  split at hc
  ·
   rename_i t x hcal hts hxs
   simp only at hcal hts hxs
   subst hcal; subst hts
   match args, hxs with
   | [x0], hxs =>
    simp only [List.map_cons, List.map_nil, List.cons.injEq, and_true] at hxs
    subst hxs
    obtain ⟨u, hu, hrep⟩ := lenF_sound (P := P) (ty := o.type) (hr.ev x0) hc
    refine ⟨u, ?_, hrep⟩
    obtain ⟨cs, hcs⟩ := n9 (a := a) ho
    rw [hcs]
    simp [builtin, hu]
  ·
   rename_i x y hcal hxs
   simp only at hcal hxs
   subst hcal
   match args, hxs with
   | [x0, y0], hxs =>
    simp only [List.map_cons, List.map_nil, List.cons.injEq, and_true] at hxs
    obtain ⟨rfl, rfl⟩ := hxs
    obtain ⟨u, hu, hrep⟩ := minF_sound (P := P) (hr.ev x0) (hr.ev y0) hc
    refine ⟨u, ?_, hrep⟩
    obtain ⟨cs, hcs⟩ := n9 (a := a) ho
    rw [hcs]
    simp [builtin, hu]
  ·
   rename_i x y hcal hxs
   simp only at hcal hxs
   subst hcal
   match args, hxs with
   | [x0, y0], hxs =>
    simp only [List.map_cons, List.map_nil, List.cons.injEq, and_true] at hxs
    obtain ⟨rfl, rfl⟩ := hxs
    obtain ⟨u, hu, hrep⟩ := maxF_sound (P := P) (hr.ev x0) (hr.ev y0) hc
    refine ⟨u, ?_, hrep⟩
    obtain ⟨cs, hcs⟩ := n9 (a := a) ho
    rw [hcs]
    simp [builtin, hu]
  ·
   rename_i x y z hcal hxs
   simp only at hcal hxs
   subst hcal
   match args, hxs with
   | [x0, y0, z0], hxs =>
    simp only [List.map_cons, List.map_nil, List.cons.injEq, and_true] at hxs
    obtain ⟨rfl, rfl, rfl⟩ := hxs
    obtain ⟨u, hu, hrep⟩ := min3F_sound (P := P) (hr.ev x0) (hr.ev y0) (hr.ev z0) hc
    refine ⟨u, ?_, hrep⟩
    obtain ⟨cs, hcs⟩ := n9 (a := a) ho
    rw [hcs]
    simp [builtin, hu]
  ·
   rename_i x y z hcal hxs
   simp only at hcal hxs
   subst hcal
   match args, hxs with
   | [x0, y0, z0], hxs =>
    simp only [List.map_cons, List.map_nil, List.cons.injEq, and_true] at hxs
    obtain ⟨rfl, rfl, rfl⟩ := hxs
    obtain ⟨u, hu, hrep⟩ := max3F_sound (P := P) (hr.ev x0) (hr.ev y0) (hr.ev z0) hc
    refine ⟨u, ?_, hrep⟩
    obtain ⟨cs, hcs⟩ := n9 (a := a) ho
    rw [hcs]
    simp [builtin, hu]
  · exact hc.elim
 ·
  rename_i f first caps ho
  have hf' : first = #[] := Array.toList_inj.1 (by simpa using hc)
  refine ⟨.func (.func f) #[] (caps.map a.eval), by simp [execOp, ho, Instr.makeFunc, hf'], ?_⟩
  simp only [RepV]
  exact ⟨caps.toList.map a.eval, by congr 1; apply Array.toList_inj.1; simp, hr.evs _⟩
 ·
  rename_i t parts ho
  exact buildF_sound ho hr hc
 · exact opF_sound hr hc

theorem opF_congr {op : Op} (h : ∀ x ∈ op.operands.toList, ev env x = ev env' x) (ho : env.objs = env'.objs) : opF P env op = opF P env' op := by
 cases op <;> simp only [opF] <;> try rfl
 all_goals (simp only [Op.operands, List.mem_cons, List.not_mem_nil, or_false, forall_eq_or_imp, forall_eq] at h)
 case slice t x lo hi mx =>
  cases mx with
  | some m =>
   cases lo with
   | none => rfl
   | some l =>
    cases hi with
    | none => rfl
    | some r =>
     show slice3F _ _ _ _ _ _ = slice3F _ _ _ _ _ _
     rw [h x (by simp), h l (by simp), h r (by simp), h m (by simp)]
  | none =>
   have hx : ev env x = ev env' x := h x (by simp)
   have hlo : lo.map (ev env) = lo.map (ev env') := by
    cases lo with
    | none => rfl
    | some y => simp only [Option.map_some]; rw [h y (by simp)]
   have hhi : hi.map (ev env) = hi.map (ev env') := by
    cases hi with
    | none => rfl
    | some y => simp only [Option.map_some]; rw [h y (by simp)]
   simp only [hx, hlo, hhi]
 case load t x => rw [h, ho]
 case pick c x y => rw [h.1, h.2.1, h.2.2]
 all_goals first
  | rw [h]
  | rw [h.1, h.2]

theorem pureA0_congr {o : Oper} (h : ∀ x ∈ o.op.operands.toList, ev env x = ev env' x) (ho : env.objs = env'.objs) : pureA0 P env o = pureA0 P env' o := by
 have hm : ∀ xs : List Operand, (∀ x ∈ xs, x ∈ o.op.operands.toList) → xs.map (ev env) = xs.map (ev env') := fun xs hxs => List.map_congr_left fun x hx => h x (hxs x hx)
 unfold pureA0
 split
 ·
  rename_i c hop
  rw [hm c.args.toList (fun x hx => by
   rw [hop]
   simp only [Op.operands, Call.operands, Array.toList_append, List.mem_append]
   exact .inr hx)]
 ·
  rename_i f first caps hop
  rw [hm caps.toList (fun x hx => by
   rw [hop]
   simp only [Op.operands, Array.toList_append, List.mem_append]
   exact .inr hx)]
 ·
  rename_i t parts hop
  have : (parts.toList.map fun x => (x.1, ev env x.2)) = parts.toList.map fun x => (x.1, ev env' x.2) := by
   refine List.map_congr_left fun x hx => ?_
   rw [h x.2 (by rw [hop]; simp only [Op.operands, List.mem_map]; exact ⟨x, hx, rfl⟩)]
  rw [this]
 · exact opF_congr h ho

theorem pureA_congr {o : Oper} (h : ∀ x ∈ o.op.operands.toList, ev env x = ev env' x) (ho : env.objs = env'.objs) : u3 P env o = u3 P env' o := by
 unfold u3
 split
 ·
  rename_i t n parts hop
  have : (parts.toList.map fun x => (x.1, ev env x.2)) = parts.toList.map fun x => (x.1, ev env' x.2) := by
   refine List.map_congr_left fun x hx => ?_
   rw [h x.2 (by rw [hop]; simp only [Op.operands, Array.toList_map, List.mem_map]; exact ⟨x, hx, rfl⟩)]
  simp only [buildD, this]
 ·
  rename_i t l c hop
  rw [h l (by rw [hop]; simp [Op.operands]), h c (by rw [hop]; simp [Op.operands])]
 · exact pureA0_congr h ho

theorem allD?_spec : ∀ {l : List V} {ds : List D}, allD? l = some ds → l = ds.map .d
 | [], ds, h => by simp only [allD?, Option.some.injEq] at h; subst h; rfl
 | v :: l, ds, h => by
  cases v with
  | d x =>
   simp only [allD?] at h
   split at h
   ·
    rename_i r hr
    simp only [Option.some.injEq] at h
    subst h
    rw [allD?_spec hr]; rfl
   · cases h
  | _ => simp [allD?] at h

theorem pureA_sound (hr : Rel B w0 S0 φ env a w) {o : Oper} (hc : (u3 P env o).1) :
  ∃ v w', (execOp a.eval o).run P w = .ok (.value v) w' ∧ Grows w w' ∧ RepV w' (Imm B S0 φ env.objs.length) φ env.objs.length (u3 P env o).2 v := by
 unfold u3 at hc ⊢
 split at hc
 ·
  rename_i t n parts hop
  unfold buildD at hc ⊢
  split at hc
  ·
   rename_i e he
   split at hc
   ·
    rename_i s b z ht
    dsimp only at hc ⊢
    split at hc
    ·
     rename_i ds hds
     simp only [hds] at hc ⊢
     obtain ⟨hfill, hle⟩ := hc
     obtain ⟨cs', h1, h2, h3⟩ := buildSlice_exec hop hr he ht hfill hle
     refine ⟨_, _, h1, Grows.alloc w _, ?_⟩
     rw [allD?_spec hds] at h2
     have ht := (Grows.alloc w (.cells cs' e)).turns0 hr
     have h4 := RepVs.repAll (RepVs.mono ht _ _ h2)
     simp only [RepV, RepD]
     refine ⟨_, _, rfl, Nat.le_refl _, .inr ⟨w.heap.size, 0, rfl, ?_⟩⟩
     refine F0 ⟨.inr hr.baseW, fun i hi e => ?_⟩ h4 fun j u hu => ?_
     · have := hr.live_lt hi e; omega
     ·
      rw [p4 (g := w.heap.size) (cur := cs') (e := e) (fr := (0, 0)) (heap_alloc_new w _), Nat.zero_add]
      simpa using hu
    · exact hc.elim
   · exact hc.elim
  · exact hc.elim
 ·
  rename_i t l c hop
  unfold makeD at hc ⊢
  split at hc
  ·
   rename_i kl ln kc cn e hl hcc he
   have hu := o7 he
   split at hc
   ·
    rename_i s b z ht
    obtain ⟨h0, h1, h2, h2', rfl⟩ := hc
    obtain ⟨i, zv, hi, hs, hb, hz, hzz, hzs⟩ := tyOf_spec' ht
    have e1 := hr.ev l
    have e2 := hr.ev c
    rw [hl] at e1
    rw [hcc] at e2
    simp only [RepV, RepD] at e1 e2
    have hzv : zv.cells = #[z] := by
     apply Array.toList_inj.1; simpa using hzz
    have hcells : madeCells zv.cells (cn.toNat * 1) = Array.replicate cn.toNat z := by
     rw [hzv]
     apply Array.ext
     · simp [madeCells]
     ·
      intro j h1 h2
      simp [madeCells, Nat.mod_one]
    have hm := run_make (P := P) w t e i zv hu hi hz kl kc ln cn h0 h1 (by rw [hb, Int.mul_comm]; omega) (by omega)
    rw [hs, hcells] at hm
    refine ⟨.slice (some ⟨w.heap.size, 0, none⟩) ln.toNat cn.toNat, w.alloc (.cells (Array.replicate cn.toNat z) e), ?_, Grows.alloc w _, ?_⟩
    · simp [execOp, hop, e1, e2, hm]
    ·
     simp only [RepV, RepD]
     refine ⟨_, _, rfl, by omega, .inr ⟨w.heap.size, 0, rfl, ?_⟩⟩
     refine RepCells.intro _ _ _ fun k hk => ?_
     rw [List.length_replicate] at hk
     refine ⟨⟨.inr hr.baseW, fun i hi e => ?_⟩, z, ?_, ?_⟩
     · have := hr.live_lt hi e; omega
     ·
      rw [p4 (g := w.heap.size) (cur := Array.replicate cn.toNat z) (e := e) (fr := (0, 0)) (heap_alloc_new w _), Nat.zero_add]
      simp [show k < cn.toNat by omega]
     · simp [List.getD_eq_getElem?_getD, List.getElem?_replicate, hk, RepD]
   · exact hc.elim
  · exact hc.elim
 ·
  obtain ⟨v, h1, h2⟩ := pureA0_sound hr hc
  exact ⟨v, w, h1, Grows.refl w, h2⟩


theorem w7 {ops : Array Oper} {o : Oper} (x : Operand) (hx : x ∈ o.op.operands.toList) (env : Env) : ev { env with tmps := G2 (o.looksAt ops) env.tmps, gs := (0, []), th := (fun _ _ => True, true) } x = ev env x := by
 cases x with
 | tmp t =>
  simp only [ev]
  refine get_keep_in _ _ _ ?_
  simp only [Oper.looksAt, List.contains_iff_mem, List.mem_append, List.mem_filterMap]
  exact .inl ⟨.tmp t, hx, rfl⟩
 | _ => rfl

theorem ev_under {env : Env} (g : Bool) (x : Operand) : ev (env.under g) x = match x with | .tmp t => strip g (get env.tmps t) | _ => ev env x := by
 cases x with
 | tmp t => simp only [ev, Env.under, get_under]
 | _ => rfl

theorem F6 {ops : Array Oper} {o : Oper} {gd : Nat × Bool} (hg : o.guard = some gd) (env : Env) : u7 (ops.toList.map (·.dst)) (G2 (o.looksAt ops) env.tmps) (some gd) = u7 (ops.toList.map (·.dst)) env.tmps (some gd) := by
 obtain ⟨j, want⟩ := gd
 simp only [u7]
 cases hd : (ops.toList.map (·.dst)).getD j none with
 | none => rfl
 | some d =>
  have : (o.looksAt ops).contains d = true := by
   simp only [Oper.looksAt, hg, List.contains_iff_mem, List.mem_append]
   right
   have e1 : (ops.toList.map (·.dst)).getD j none = (ops[j]?).bind (·.dst) := by
    simp only [List.getD_eq_getElem?_getD, List.getElem?_map, Array.getElem?_toList]
    cases ops[j]? <;> rfl
   rw [← e1, hd]
   simp
  simp only [get_keep_in _ _ _ this]

theorem A7 {d : Option Nat} (h : l5 env d) : okD' env.nt d := by cases d <;> exact h

theorem Yields.pure {ops : Array Oper} {o : Oper} (hg : o.guard = none) (hc : (u3 P env o).1) (hd : l5 env o.dst) : Yields P ops o env.nt env.objs (get env.tmps) (u3 P env o).2 := by
 refine ⟨A7 hd, fun B w0 S0 φ a w hr => .inl ⟨k7 hg _, .inl ?_⟩⟩
 have hr' : Rel B w0 S0 φ { env with tmps := G2 (o.looksAt ops) env.tmps, gs := (0, []), th := (fun _ _ => True, true) } a w := RelF.toRel (by simpa [q3] using hr)
 have e := pureA_congr (P := P) (o := o) (env := { env with tmps := G2 (o.looksAt ops) env.tmps, gs := (0, []), th := (fun _ _ => True, true) }) (env' := env) (fun x hx => w7 x hx env) rfl
 have := pureA_sound (P := P) hr' (o := o) (by rw [e]; exact hc)
 rw [e] at this
 exact this

theorem Yields.pureG {ops : Array Oper} {o : Oper} {gd : Nat × Bool} (hg : o.guard = some gd) {g : Bool} (hgc : u7 (ops.toList.map (·.dst)) env.tmps (some gd) = some g) (hc : g = true → (u3 P (env.under g) o).1) (hd : l5 env o.dst) :
  Yields P ops o env.nt env.objs (get env.tmps) (.guarded g (u3 P (env.under g) o).2) := by
 obtain ⟨j, want⟩ := gd
 refine ⟨A7 hd, fun B w0 S0 φ a w hr => ?_⟩
 have hr' : Rel B w0 S0 φ { env with tmps := G2 (o.looksAt ops) env.tmps, gs := (0, []), th := (fun _ _ => True, true) } a w := RelF.toRel (by simpa [q3] using hr)
 have hops : ops.toList.toArray = ops := by simp
 have hw := o9 (all := ops.toList) hr' hg (by rw [F6 hg]; exact hgc)
 rw [hops] at hw
 cases g with
 | true =>
  left
  refine ⟨hw, .inl ?_⟩
  have e := pureA_congr (P := P) (o := o) (env := Env.under { env with tmps := G2 (o.looksAt ops) env.tmps, gs := (0, []), th := (fun _ _ => True, true) } true) (env' := env.under true) (fun x hx => by
   have h1 := w7 (ops := ops) x hx env
   rw [ev_under, ev_under]
   cases x with
   | tmp t => simp only [ev] at h1; simp only [h1]
   | _ => rfl) rfl
  obtain ⟨v, w', hv, hg', hrep⟩ := pureA_sound (P := P) (hr'.under rfl) (o := o) (by rw [e]; exact hc rfl)
  rw [e] at hrep
  refine ⟨v, w', hv, hg', ?_⟩
  simp only [RepV]
  exact ⟨fun _ => hrep, fun h => (by cases h)⟩
 | false =>
  right
  refine ⟨hw, ?_⟩
  simp only [RepV]
  exact ⟨fun h => (by cases h), fun _ => by trivial⟩

theorem FW.pre {ops : Array Oper} {K : Env → Prop} : ∀ (l : List Oper) (env : Env), (preA P (ops.toList.map (·.dst)) l env).1 → FW P ops (preA P (ops.toList.map (·.dst)) l env).2.2 (preA P (ops.toList.map (·.dst)) l env).2.1 K → FW P ops l env K
 | [], env, _, h => h
 | o :: rest, env, hc, h => by
  unfold preA at hc h
  split at hc
  · rename_i hcall; rw [if_pos hcall] at h; exact h
  ·
   rename_i hcall
   rw [if_neg hcall] at h
   split at hc
   ·
    rename_i hg
    simp only [hg] at h
    exact ⟨_, Yields.pure hg hc.1.1 hc.1.2, FW.pre rest _ hc.2 h⟩
   ·
    rename_i gd hg
    simp only [hg] at h
    split at hc
    · exact hc.elim
    ·
     rename_i g hgc
     simp only [hgc] at h
     obtain ⟨⟨hcg, hd⟩, hc'⟩ := hc
     exact ⟨_, Yields.pureG hg hgc hcg hd, FW.pre rest _ hc' h⟩

theorem FW.run {ops : Array Oper} {K : Env → Prop} {l : List Oper} (h : match preA P (ops.toList.map (·.dst)) l env with | (c, env', rest) => c ∧ FW P ops rest env' K) : FW P ops l env K :=
 FW.pre l env h.1 h.2
theorem FW.nil {ops : Array Oper} {K : Env → Prop} (h : K env) : FW P ops [] env K := h

theorem CallV.sound0 {f : FuncId} {vs : List V} {x : D} (hc : CallV P env f vs (.d x) []) (h : Rel B w0 S0 φ env a w) {us : List Value} (hu : RepVs w (Imm B S0 φ env.objs.length) φ env.objs.length vs us) :
  Calls P f us.toArray w fun e w' => ∃ v, e = .returned v ∧ Grows w w' ∧ RepV w' (Imm B S0 φ env.objs.length) φ env.objs.length (.d x) v := by
 obtain ⟨k, hok, ⟨_, hcall⟩, hS⟩ := hc
 by_cases hd : vs.all noO = true
 ·
  have hrep : RepAll w (Imm B S0 φ env.objs.length) (vs.map (toD env.objs k)) us := by
   refine l8 _ _ _ hu fun v hv u hvu => ?_
   exact noO_rep k v u hvu (List.all_eq_true.1 hd v hv) (hok v hv)
  refine (hcall w _ us h.glob hrep).mono ?_
  rintro e w' ⟨v, φr, rfl, hres⟩
  refine ⟨v, rfl, ⟨hres.below⟩, ?_⟩
  have := hres.rep
  simp only [RepV] at this ⊢
  refine RepD.mono (fun b o y hb hy => ⟨hy, ?_, fun i hi e => ?_⟩) x v this
  ·
   rcases hb.1 with hs | hs
   · exact hs.1
   · exact .inr (Nat.le_trans h.baseW hs)
  ·
   rcases hb.1 with hs | hs
   · exact hs.2 i hi e
   · have := h.live_lt hi e; omega
 ·
  have hrep : RepAll w (fun _ => True) (vs.map (toD env.objs k)) us :=
   l8 _ _ _ hu fun v hv u hvu => toD_rep h (fun _ _ => trivial) (fun _ _ _ _ => trivial) k v u hvu (hok v hv)
  refine (hcall w _ us h.glob.any hrep).mono ?_
  rintro e w' ⟨v, φr, rfl, hres⟩
  refine ⟨v, rfl, ⟨hres.below⟩, ?_⟩
  have hcl := (hS.resolve_left hd).1
  have := RepV.clean (S' := Imm B S0 φ env.objs.length) _ v hcl hres.rep
  simpa only [RepV] using this

theorem FW.call {ops : Array Oper} {K : Env → Prop} {o : Oper} {rest : List Oper} {fo : Operand} {xs : Array Operand} {ts : Array TypeId} (ho : o.op = .call { callee := .value fo, args := xs, argTypes := ts }) (hg : o.guard = none)
  {f : FuncId} {caps : List V} (hf : E0 (ev env fo) = some (f, caps)) {x : D} (hc : CallV P env f (xs.toList.map (ev env) ++ caps) (.d x) []) (hd : l5 env o.dst)
  (h : FW P ops rest (putO env o.dst (.d x)) K) : FW P ops (o :: rest) env K := by
 refine ⟨.d x, ⟨A7 hd, fun B w0 S0 φ a w hr => .inl ⟨k7 hg _, .inr ?_⟩⟩, h⟩
 have hr' : Rel B w0 S0 φ { env with tmps := G2 (o.looksAt ops) env.tmps, gs := (0, []), th := (fun _ _ => True, true) } a w := RelF.toRel (by simpa [q3] using hr)
 have hmem : ∀ y, y = fo ∨ y ∈ xs.toList → y ∈ o.op.operands.toList := by
  intro y hy
  rw [ho]
  simp only [Op.operands, Call.operands, Array.toList_append, List.mem_append]
  rcases hy with rfl | hy
  · exact .inl (by simp)
  · exact .inr hy
 have e1 : ev { env with tmps := G2 (o.looksAt ops) env.tmps, gs := (0, []), th := (fun _ _ => True, true) } fo = ev env fo := w7 fo (hmem fo (.inl rfl)) env
 have e2 : xs.toList.map (ev { env with tmps := G2 (o.looksAt ops) env.tmps, gs := (0, []), th := (fun _ _ => True, true) }) = xs.toList.map (ev env) := List.map_congr_left fun y hy => w7 y (hmem y (.inr hy)) env
 have hcall : ∀ args w, (callFunc f args).run P w = .ok (.enter f args) w := by
  obtain ⟨k, _, h1, _⟩ := hc; exact h1.1
 obtain ⟨us, hex, hus⟩ := B9 hr' ho (by rw [e1]; exact hf) hcall
 rw [e2] at hus
 exact ⟨f, us.toArray, hex, CallV.sound0 (env := { env with tmps := G2 (o.looksAt ops) env.tmps, gs := (0, []), th := (fun _ _ => True, true) }) hc hr' hus⟩

theorem FW.callG {ops : Array Oper} {K : Env → Prop} {o : Oper} {rest : List Oper} {fo : Operand} {xs : Array Operand} {ts : Array TypeId} (ho : o.op = .call { callee := .value fo, args := xs, argTypes := ts }) {gd : Nat × Bool} (hg : o.guard = some gd)
  {g : Bool} (hgc : u7 (ops.toList.map (·.dst)) env.tmps (some gd) = some g)
  {f : FuncId} {caps : List V} (hf : g = true → E0 (ev (env.under g) fo) = some (f, caps)) {x : D} (hc : g = true → CallV P env f (xs.toList.map (ev (env.under g)) ++ caps) (.d x) []) (hd : l5 env o.dst)
  (h : FW P ops rest (putO env o.dst (.guarded g (.d x))) K) : FW P ops (o :: rest) env K := by
 obtain ⟨j, want⟩ := gd
 refine ⟨.guarded g (.d x), ⟨A7 hd, fun B w0 S0 φ a w hr => ?_⟩, h⟩
 have hr' : Rel B w0 S0 φ { env with tmps := G2 (o.looksAt ops) env.tmps, gs := (0, []), th := (fun _ _ => True, true) } a w := RelF.toRel (by simpa [q3] using hr)
 have hops : ops.toList.toArray = ops := by simp
 have hw := o9 (all := ops.toList) hr' hg (by rw [F6 hg]; exact hgc)
 rw [hops] at hw
 cases g with
 | true =>
  left
  refine ⟨hw, .inr ?_⟩
  have hc := hc rfl
  have hmem : ∀ y, y = fo ∨ y ∈ xs.toList → y ∈ o.op.operands.toList := by
   intro y hy
   rw [ho]
   simp only [Op.operands, Call.operands, Array.toList_append, List.mem_append]
   rcases hy with rfl | hy
   · exact .inl (by simp)
   · exact .inr hy
  have eu : ∀ y, y = fo ∨ y ∈ xs.toList → ev (Env.under { env with tmps := G2 (o.looksAt ops) env.tmps, gs := (0, []), th := (fun _ _ => True, true) } true) y = ev (env.under true) y := by
   intro y hy
   have h1 := w7 (ops := ops) y (hmem y hy) env
   rw [ev_under, ev_under]
   cases y with
   | tmp t => simp only [ev] at h1; simp only [h1]
   | _ => rfl
  have hcall : ∀ args w, (callFunc f args).run P w = .ok (.enter f args) w := by
   obtain ⟨k, _, h1, _⟩ := hc; exact h1.1
  obtain ⟨us, hex, hus⟩ := B9 (hr'.under rfl) ho (by rw [eu fo (.inl rfl)]; exact hf rfl) hcall
  rw [List.map_congr_left fun y hy => eu y (.inr hy)] at hus
  refine ⟨f, us.toArray, hex, (CallV.sound0 (env := { env with tmps := G2 (o.looksAt ops) env.tmps, gs := (0, []), th := (fun _ _ => True, true) }) hc hr' hus).mono ?_⟩
  rintro e w' ⟨v, rfl, hgr, hrep⟩
  refine ⟨v, rfl, hgr, ?_⟩
  simp only [RepV] at hrep ⊢
  exact ⟨fun _ => hrep, fun h => (by cases h)⟩
 | false =>
  right
  refine ⟨hw, ?_⟩
  simp only [RepV]
  exact ⟨fun h => (by cases h), fun _ => by trivial⟩

theorem get_putO (env : Env) (d : Option Nat) (r : V) : get (putO env d r).tmps = putF (get env.tmps) d r := by
 cases d with
 | none => rfl
 | some d => funext t; simp only [putO, Env.put, get_put, putF]
theorem D8 (env : Env) (d : Option Nat) (r : V) : (putO env d r).nt = env.nt ∧ (putO env d r).objs = env.objs ∧ (putO env d r).gs = env.gs ∧ (putO env d r).th = env.th := by cases d <;> exact ⟨rfl, rfl, rfl, rfl⟩

theorem aAnyL_lex {md : Region.Mode} {ops : Array Oper} {n g : Nat} {K : Env → Prop} (hs : Region.sinkB md ops n = true) (hc : Region.chainB md ops n = true) (hn : n < ops.size) :
  ∀ (l : List Oper) (k : Nat) (listed : Array Bool) (env : Env), (∀ j, j < l.length → l[j]? = ops[k + j]?) → k + l.length = n → HeadInv md ops n listed →
  Region.lexHead md ops g l.length k listed = true → FW P ops l env K →
  aAnyL P md ops env.nt env.objs n (fun listed' f' => Region.seqB md ops g n listed' = true ∧ ∃ env', env'.nt = env.nt ∧ env'.objs = env.objs ∧ env'.gs = env.gs ∧ env'.th = env.th ∧ get env'.tmps = f' ∧ K env') l.length listed (get env.tmps)
 | [], k, listed, env, _, hk, _, hB, h => by
  have : k = n := by simpa using hk
  subst this
  exact ⟨by simpa [Region.lexHead] using hB, env, rfl, rfl, rfl, rfl, rfl, h⟩
 | o :: l, k, listed, env, hl, hk, inv, hB, h => by
  have h0 : ops[k]? = some o := by simpa using (hl 0 (by simp)).symm
  simp only [List.length_cons, Region.lexHead, Bool.and_eq_true] at hB
  obtain ⟨⟨hr, hf⟩, hB'⟩ := hB
  have hkn : k < n := by simp only [List.length_cons] at hk; omega
  have hr' : k ∈ Region.ready md ops listed := by simpa using hr
  obtain ⟨r, hy, hK⟩ := h
  have ih := aAnyL_lex (g := g) hs hc hn l (k + 1) (listed.setIfInBounds k true) (putO env o.dst r) (fun j hj => by have := hl (j + 1) (by simp; omega); simpa [Nat.add_assoc, Nat.add_comm 1 j] using this) (by simp only [List.length_cons] at hk; omega) (inv.set hr' hkn) hB' hK
  rw [get_putO, (D8 env o.dst r).1, (D8 env o.dst r).2.1, (D8 env o.dst r).2.2.1, (D8 env o.dst r).2.2.2] at ih
  exact aAnyL_first h0 hs hc hn hkn (fun listed' f' hL => seqB_ready hL.1) l.length listed _ inv (Region.free_spec h0 hf) hr' hy ih

theorem wpAnyIn_of_seq {F : Fence} {md : Region.Mode} {ops : Array Oper} {Q' : Exit → Act → World → Prop} {m : Nat} : ∀ (l : List Oper) (k : Nat) (listed : Array Bool) (a : Act) (w : World), (∀ j, l[j]? = ops[k + j]?) →
  Region.seqB md ops l.length k listed = true → wpListIn F m P ops Q' l a w → wpAnyIn F m P md ops Q' l.length listed a w
 | [], _, _, _, _, _, hB, h => ⟨by simpa [Region.seqB] using hB, h⟩
 | o :: l, k, listed, a, w, hl, hB, h => by
  have h0 : ops[k]? = some o := by simpa using (hl 0).symm
  simp only [List.length_cons, Region.seqB, Bool.and_eq_true, decide_eq_true_eq] at hB
  refine ⟨fun h1 => (by rw [hB.1] at h1; cases h1), fun i hi => ?_⟩
  rw [hB.1] at hi
  have hik : i = k := by simpa using hi
  subst hik
  have hw : wpOpIn F m P ops Q' i (wpListIn F m P ops Q' l) a w := by unfold wpOpIn; simp only [h0]; exact h
  exact wpOpIn_mono (fun a' w' h' => wpAnyIn_of_seq l (i + 1) _ a' w' (fun j => by have := hl (j + 1); simpa [Nat.add_assoc, Nat.add_comm 1 j] using this) hB.2 h') hw

theorem PW.regionDraw {ro : Option Nat} {id : Nat} {Q : Exit → Env → Prop} {l : List Oper} {K : Env → Prop} (n : Nat) (hm : P.follows .mixedOrders = true) (hB : Region.lexTailB .any l.toArray n = true)
  (h : FW P l.toArray (l.take n) env fun env' => OW ro P l (l.drop n) env' K) (hq : ∀ env', K env' → Q .normal env') : PW ro P (.region id l.toArray true) Q env := by
 simp only [Region.lexTailB, Bool.and_eq_true, decide_eq_true_eq] at hB
 obtain ⟨⟨⟨⟨hsel, hn⟩, hs⟩, hc⟩, hlex⟩ := hB
 have hn' : n < l.length := by simpa using hn
 have htl : (l.take n).length = n := by simp; omega
 have hdl : (l.drop n).length = l.toArray.size - n := by simp
 have inv0 : HeadInv .any l.toArray n (Array.replicate l.toArray.size false) :=
  ⟨by simp, fun j oj _ hl => (by rw [getD_replicate_false] at hl; cases hl), fun t _ ht => Go.getD_in (by simpa using ht) (getD_replicate_false _ _)⟩
 have H := aAnyL_lex (P := P) (md := .any) (g := l.toArray.size - n) hs hc hn (l.take n) 0 _ env (fun j hj => by
  have hj' : j < n := by rw [htl] at hj; exact hj
  simp [hj']) (by simpa using htl) inv0 (by rw [htl]; exact hlex) h
 intro B w0 S0 φ a w hr
 refine wpIn_region_any hm ?_
 have hr' : RelF B w0 S0 φ env.nt env.objs env.gs env.th (get env.tmps) a { w with drawn := w.drawn + 1 } := hr.toF.grow (Grows.drew w)
 have := E3 (ro := ro) (md := .any) (Q' := Sat B w0 S0 Q) (g := l.toArray.size - n) (nt := env.nt) (objs := env.objs) (gs := env.gs) (th := env.th) (P := P) (n := n) (ops := l.toArray) B w0 S0 (fun listed f φ' a' w' hL hrf => by
  obtain ⟨hseq, env', e1, e2, e4, e5, e3, hK⟩ := hL
  subst e3
  rw [← e1, ← e2, ← e4, ← e5] at hrf
  have hrel : Rel B w0 S0 φ' env' a' w' := hrf.toRel
  have hwp := hK B w0 S0 φ' a' w' (Sat B w0 S0 Q) hrel fun φ2 env2 a2 w2 hk2 hr2 => ⟨env2, φ2, hq env2 hk2, hr2⟩
  have := wpAnyIn_of_seq (md := .any) (Q' := Sat B w0 S0 Q) (l.drop n) n listed a' w' (fun j => by simp [List.getElem?_drop]) (by rw [hdl]; exact hseq) hwp
  rwa [hdl] at this) _ _ _ H _ _ _ hr'
 rw [htl, show n + (l.toArray.size - n) = l.toArray.size by omega] at this
 exact this
end
end Go.PW
