import Derived.Test.YtbndgoeahoadlaaGreatDoorPwL
set_option linter.all false
namespace Go.PW
open Go.RowKit

def Env.under (env : Env) (g : Bool) : Env := { env with tmps := env.tmps.map fun x => (x.1, strip g x.2) }
theorem get_under (l : List (Nat × V)) (g : Bool) (t : Nat) : get (l.map fun x => (x.1, strip g x.2)) t = strip g (get l t) := by
 induction l with
 | nil => simp [get, strip]
 | cons x l ih =>
  obtain ⟨s, v⟩ := x
  simp only [List.map_cons, get]
  split
  · rfl
  · exact ih

def isCallB (o : Oper) : Bool :=
 match o.op with
 | .call c => match c.callee with | .value _ => true | _ => false
 | _ => false

def isStopB (o : Oper) : Bool := isCallB o || (match o.op, o.guard with | .buildSlice .., some _ => true | _, _ => false)


def u7 (ds : List (Option Nat)) (tmps : List (Nat × V)) : Option (Nat × Bool) → Option Bool
 | none => some true
 | some (j, want) =>
  match ds.getD j none with
  | some d => match get tmps d with
   | .d (.val (.bool b)) => some (b == want)
   | .guarded c (.d (.val (.bool b))) => some (c && (b == want))
   | _ => none
  | none => none

def pureG (P : Program) (env : Env) (o : Oper) : Prop × V :=
 match o.op with
 | .call c => match c.callee, c.argTypes.toList, c.args.toList.map (ev env) with
  | .builtin .len, [t], [x] => lenF P t x
  | _, _, _ => bad
 | op => opF P env op

def pre (P : Program) (ds : List (Option Nat)) (S : List Nat) : List Oper → Env → Prop × Env × List Oper
 | [], env => (True, { env with tmps := G2 S env.tmps }, [])
 | o :: rest, env =>
  if isStopB o then (True, env, o :: rest) else
  match o.guard with
  | none => match y8 P env o with
   | (c, env') => match pre P ds S rest env' with
    | (c', env'', l) => (c ∧ c', env'', l)
  | some gd => match u7 ds env.tmps (some gd) with
   | none => (False, env, [])
   | some g => match pureG P (env.under g) o with
    | (c, r) => match pre P ds S rest (putO env o.dst (.guarded g r)) with
     | (c', env'', l) => (((g = true → c) ∧ l5 env o.dst) ∧ c', env'', l)

def OW (ro : Option Nat) (P : Program) (all l : List Oper) (env : Env) (K : Env → Prop) : Prop :=
 ∀ B w0 S0 φ a w (Q : Exit → Act → World → Prop), Rel B w0 S0 φ env a w → (∀ φ' env' a' w', K env' → Rel B w0 S0 φ' env' a' w' → Q .normal a' w') → wpListIn (Fd ro) 1 P all.toArray Q l a w

section
variable {ro : Option Nat} {P : Program} {all l : List Oper} {env : Env} {K : Env → Prop}

theorem OW.nil (h : K env) : OW ro P all [] env K := fun _ _ _ φ a w _ hr hK => hK φ env a w h hr

theorem OW.weaken {env' : Env} (hn : env'.nt ≤ env.nt) (ho : env'.objs = env.objs) (ht : ∀ t, get env'.tmps t = get env.tmps t ∨ get env'.tmps t = .dead) (h : OW ro P all l env' K) (hgs : env'.gs = env.gs) (hth : env'.th = env.th) : OW ro P all l env K :=
 fun B w0 S0 φ a w Q hr hK => h B w0 S0 φ a w Q (hr.weaken hn ho ht hgs hth) hK

theorem k7 {o : Oper} (h : o.guard = none) (y : Nat → Option Bool) : Region.wanted o y = true := by simp [Region.wanted, h]

theorem o9 {B : Nat} {w0 : World} {S0 : Nat → Prop} {φ : Nat → Option Nat} {a : Act} {w : World} (hr : Rel B w0 S0 φ env a w) {o : Oper} {j : Nat} {want g : Bool} (hg : o.guard = some (j, want))
  (h : u7 (all.map (·.dst)) env.tmps (some (j, want)) = some g) : Region.wanted o (yielded all.toArray a.tmps) = g := by
 simp only [u7] at h
 have hd : (all.map (·.dst)).getD j none = (all.toArray[j]?).bind (·.dst) := by
  simp only [List.getD_eq_getElem?_getD, List.getElem?_map, List.getElem?_toArray]
  cases all[j]? <;> rfl
 rw [hd] at h
 simp only [Region.wanted, hg, yielded]
 cases hb : (all.toArray[j]?).bind (·.dst) with
 | none => rw [hb] at h; simp at h
 | some d =>
  rw [hb] at h
  simp only at h
  have ht := hr.tmps d
  have hget : a.tmps[d]? = none ∨ a.tmps[d]? = some (a.tmps.getD d undef) := by
   rcases Nat.lt_or_ge d a.tmps.size with h1 | h1
   · right; simp [h1]
   · left; simp [h1]
  have hund : a.tmps[d]? = none → a.tmps.getD d undef = undef := by
   intro h1; simp [Array.getD_eq_getD_getElem?, h1]
  split at h
  ·
   rename_i b hv
   rw [hv] at ht
   simp only [RepV, RepD] at ht
   simp only [Option.some.injEq] at h
   rcases hget with h1 | h1
   · rw [hund h1] at ht; cases ht
   ·
    rw [ht] at h1
    rw [Option.bind_some, h1]
    simp only [← h]
    cases b <;> cases want <;> rfl
  ·
   rename_i c b hv
   rw [hv] at ht
   simp only [RepV, RepD] at ht
   simp only [Option.some.injEq] at h
   cases c with
   | true =>
    have hb' := ht.1 rfl
    rcases hget with h1 | h1
    · rw [hund h1] at hb'; cases hb'
    ·
     rw [hb'] at h1
     rw [Option.bind_some, h1]
     simp only [← h]
     cases b <;> cases want <;> rfl
   | false =>
    have hb' := ht.2 rfl
    rw [← h, Option.bind_some]
    rcases hget with h1 | h1
    · rw [h1]; rfl
    · rw [h1, hb']; rfl
  · cases h

theorem Rel.under {B : Nat} {w0 : World} {S0 : Nat → Prop} {φ : Nat → Option Nat} {a : Act} {w : World} (hr : Rel B w0 S0 φ env a w) {g : Bool} (hg : g = true) : Rel B w0 S0 φ (env.under g) a w where
 below := hr.below
 base := hr.base
 nodef := hr.nodef
 size := hr.size
 tmps t := by simp only [Env.under, get_under]; exact strip_rep hg (hr.tmps t)
 objs := hr.objs
 low := hr.low
 inj := hr.inj
 ghost := hr.ghost

theorem pureG_sound {B : Nat} {w0 : World} {S0 : Nat → Prop} {φ : Nat → Option Nat} {a : Act} {w : World} (hr : Rel B w0 S0 φ env a w) {o : Oper} (hc : (pureG P env o).1) :
  ∃ v, (execOp a.eval o).run P w = .ok (.value v) w ∧ RepV w (Imm B S0 φ env.objs.length) φ env.objs.length (pureG P env o).2 v := by
 unfold pureG at hc ⊢
 split at hc
 ·
  rename_i c ho
  split at hc
  ·
   rename_i t x hcal hts hxs
   obtain ⟨callee, args, argTypes⟩ := c
   obtain ⟨args⟩ := args
   obtain ⟨argTypes⟩ := argTypes
   simp only at hcal hts hxs
   subst hcal; subst hts
   match args, hxs with
   | [x0], hxs =>
    simp only [List.map_cons, List.map_nil, List.cons.injEq, and_true] at hxs
    subst hxs
    obtain ⟨u, hu, hrep⟩ := lenF_sound (P := P) (ty := o.type) (hr.ev x0) hc
    refine ⟨u, ?_, hrep⟩
    obtain ⟨cs, hcs⟩ := n9 (a := a) ho
    rw [hcs]
    simp [builtin, hu]
  · exact hc.elim
 · exact opF_sound hr hc

theorem OW.pre (S : List Nat) : ∀ (l : List Oper) (env : Env), (PW.pre P (all.map (·.dst)) S l env).1 → OW ro P all (PW.pre P (all.map (·.dst)) S l env).2.2 (PW.pre P (all.map (·.dst)) S l env).2.1 K → OW ro P all l env K
 | [], env, _, h => OW.weaken (env' := { env with tmps := G2 S env.tmps }) (Nat.le_refl _) rfl (fun t => get_keep S env.tmps t) h rfl rfl
 | o :: rest, env, hc, h => by
  unfold PW.pre at hc h
  split at hc
  · rename_i hcall; rw [if_pos hcall] at h; exact h
  ·
   rename_i hcall
   rw [if_neg hcall] at h
   split at hc
   ·
    rename_i hg
    simp only [hg] at h
    have ih := OW.pre S rest (y8 P env o).2 hc.2 h
    intro B w0 S0 φ a w Q hr hK
    unfold wpListIn
    rw [if_pos (k7 hg _)]
    exact stepF_sound hc.1 B w0 S0 φ a w hr _ _ (fun φ' a' w' hr' => ih B w0 S0 φ' a' w' Q hr' hK) ro
   ·
    rename_i gd hg
    obtain ⟨j, want⟩ := gd
    simp only [hg] at h
    split at hc
    · exact hc.elim
    ·
     rename_i g hgc
     simp only [hgc] at h
     obtain ⟨⟨hcg, hd⟩, hc'⟩ := hc
     have ih := OW.pre S rest _ hc' h
     intro B w0 S0 φ a w Q hr hK
     have hw := o9 hr hg hgc
     unfold wpListIn
     rw [hw]
     cases g with
     | true =>
      rw [if_pos rfl]
      obtain ⟨v, hv, hrep⟩ := pureG_sound (hr.under rfl) (hcg rfl)
      refine B3 hv (ih B w0 S0 φ _ _ Q (hr.putO o.dst hd _ v ?_) hK)
      simp only [RepV]
      exact ⟨fun _ => hrep, fun h => (by cases h)⟩
     | false =>
      rw [if_neg (by simp)]
      refine ⟨fun _ _ => trivial, ih B w0 S0 φ _ _ Q (hr.putO o.dst hd _ undef ?_) hK⟩
      simp only [RepV]
      exact ⟨fun h => (by cases h), fun _ => by trivial⟩

theorem OW.run (S : List Nat) (h : match PW.pre P (all.map (·.dst)) S l env with | (c, env', rest) => c ∧ OW ro P all rest env' K) : OW ro P all l env K :=
 OW.pre S l env h.1 h.2

def E0 : V → Option (FuncId × List V)
 | .clo f caps => some (f, caps)
 | .d (.clo f cs) => some (f, cs.map .d)
 | _ => none

theorem B9 {B : Nat} {w0 : World} {S0 : Nat → Prop} {φ : Nat → Option Nat} {a : Act} {w : World} (hr : Rel B w0 S0 φ env a w) {o : Oper} {fo : Operand} {xs : Array Operand} {ts : Array TypeId}
  (ho : o.op = .call { callee := .value fo, args := xs, argTypes := ts }) {f : FuncId} {caps : List V} (hf : E0 (ev env fo) = some (f, caps)) (hcall : ∀ args w, (callFunc f args).run P w = .ok (.enter f args) w) :
  ∃ us : List Value, (execOp a.eval o).run P w = .ok (.enter f us.toArray) w ∧ RepVs w (Imm B S0 φ env.objs.length) φ env.objs.length (xs.toList.map (ev env) ++ caps) us := by
 have hev := hr.ev fo
 have hcl : ∃ cs : List Value, a.eval fo = .func (.func f) #[] cs.toArray ∧ RepVs w (Imm B S0 φ env.objs.length) φ env.objs.length caps cs := by
  unfold E0 at hf
  split at hf
  ·
   rename_i f' caps' hv
   cases hf
   rw [hv] at hev
   simp only [RepV] at hev
   exact hev
  ·
   rename_i f' cs' hv
   cases hf
   rw [hv] at hev
   simp only [RepV, RepD] at hev
   obtain ⟨vs, h1, h2⟩ := hev
   exact ⟨vs, h1, h2.repVs⟩
  · cases hf
 obtain ⟨cs, hcs, hrep⟩ := hcl
 refine ⟨xs.toList.map a.eval ++ cs, ?_, (hr.evs xs.toList).append hrep⟩
 have e1 : (xs.toList.map a.eval ++ cs).toArray = xs.map a.eval ++ cs.toArray := by
  apply Array.toList_inj.1; simp
 rw [e1]
 simp [execOp, ho, resolve, Deferred.ofValue, hcs, invoke, hcall]

theorem OW.call {o : Oper} {rest : List Oper} {fo : Operand} {xs : Array Operand} {ts : Array TypeId} (ho : o.op = .call { callee := .value fo, args := xs, argTypes := ts }) (hg : o.guard = none)
  {f : FuncId} {caps : List V} (hf : E0 (ev env fo) = some (f, caps)) {r : V} {obs : Obs} (hc : CallV P env f (xs.toList.map (ev env) ++ caps) r obs) (hd : l5 env o.dst)
  (h : OW ro P all rest (putO (env.addObs obs) o.dst (r.shift env.objs.length)) K) : OW ro P all (o :: rest) env K := by
 intro B w0 S0 φ a w Q hr hK
 have hcall : ∀ args w, (callFunc f args).run P w = .ok (.enter f args) w := by
  obtain ⟨k, _, h1, _⟩ := hc; exact h1.1
 obtain ⟨us, hex, hus⟩ := B9 hr ho hf hcall
 unfold wpListIn
 rw [if_pos (k7 hg _)]
 refine wp_enter hex ?_
 refine (hc.sound hr hus).mono ?_
 rintro e w' ⟨v, φ', rfl, hr', hrep⟩
 refine ⟨v, rfl, ?_⟩
 exact h B w0 S0 φ' _ w' Q (hr'.putO o.dst (okDst_nt rfl hd) _ v hrep) hK

theorem OW.callG {o : Oper} {rest : List Oper} {fo : Operand} {xs : Array Operand} {ts : Array TypeId} (ho : o.op = .call { callee := .value fo, args := xs, argTypes := ts }) {gd : Nat × Bool} (hg : o.guard = some gd)
  {g : Bool} (hgc : u7 (all.map (·.dst)) env.tmps (some gd) = some g)
  {f : FuncId} {caps : List V} (hf : g = true → E0 (ev (env.under g) fo) = some (f, caps)) {r : V} (hc : g = true → CallV P (env.under g) f (xs.toList.map (ev (env.under g)) ++ caps) r []) (hd : l5 env o.dst)
  (h : OW ro P all rest (putO env o.dst (.guarded g (r.shift env.objs.length))) K) : OW ro P all (o :: rest) env K := by
 obtain ⟨j, want⟩ := gd
 intro B w0 S0 φ a w Q hr hK
 have hw := o9 hr hg hgc
 unfold wpListIn
 rw [hw]
 cases g with
 | true =>
  rw [if_pos rfl]
  have hc := hc rfl
  have hcall : ∀ args w, (callFunc f args).run P w = .ok (.enter f args) w := by
   obtain ⟨k, _, h1, _⟩ := hc; exact h1.1
  obtain ⟨us, hex, hus⟩ := B9 (hr.under rfl) ho (hf rfl) hcall
  refine wp_enter hex ?_
  refine (CallV.sound (env := env) hc hr hus).mono ?_
  rintro e w' ⟨v, φ', rfl, hr', hrep⟩
  refine ⟨v, rfl, ?_⟩
  have henv : env.addObs [] = env := by simp [Env.addObs]
  rw [henv] at hr' hrep
  refine h B w0 S0 φ' _ w' Q (hr'.putO o.dst hd _ v ?_) hK
  simp only [RepV]
  exact ⟨fun _ => hrep, fun h => (by cases h)⟩
 | false =>
  rw [if_neg (by simp)]
  refine ⟨fun _ _ => trivial, h B w0 S0 φ _ _ Q (hr.putO o.dst hd _ undef ?_) hK⟩
  simp only [RepV]
  exact ⟨fun h => (by cases h), fun _ => by trivial⟩

theorem PW.region {id : Nat} {Q : Exit → Env → Prop} (h : OW ro P l l env K) (hq : ∀ env', K env' → Q .normal env') : PW ro P (.region id l.toArray false) Q env :=
 fun B w0 S0 φ a w hr => wpIn_region_lit (h B w0 S0 φ a w _ hr fun φ' env' _ _ hk hr' => ⟨env', φ', hq env' hk, hr'⟩)

end
end Go.PW
