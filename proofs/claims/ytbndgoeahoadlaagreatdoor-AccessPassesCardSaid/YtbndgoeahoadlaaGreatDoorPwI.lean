import Derived.Test.YtbndgoeahoadlaaGreatDoorPwH
set_option linter.all false
namespace Go.PW
open Go.RowKit

def l5 (env : Env) : Option Nat → Prop
 | some d => d < env.nt
 | none => True
def putO (env : Env) : Option Nat → V → Env
 | some d, v => env.put d v
 | none, _ => env
def pureF (env : Env) (d : Option Nat) (r : Prop × V) : Prop × Env := (r.1 ∧ l5 env d, putO env d r.2)
def newOb (env : Env) (ob : Ob) (d : Option Nat) (v : V) : Env := putO { env with objs := env.objs ++ [ob] } d v

def B7 (P : Program) (env : Env) (d : Option Nat) (t : TypeId) (p v : V) : Prop × Env :=
 match p, F3 P t with
 | .ptr i off, some (s, _, _) =>
  match env.objs[i]? with
  | some ob => (d = none ∧ (r6 v).length = s ∧ off + s ≤ ob.cells.length ∧ (r6 v).all oneV = true, { env with objs := env.objs.set i { ob with cells := setMany ob.cells off (r6 v) } })
  | none => (False, env)
 | _, _ => (False, env)

def boxF (env : Env) (d : Option Nat) (e : TypeId) (x : V) : Prop × Env :=
 ((r6 x).all oneV = true ∧ l5 env d, newOb env ⟨r6 x, e⟩ d (.ptr env.objs.length 0))

def allocF (P : Program) (env : Env) (d : Option Nat) (e : TypeId) : Prop × Env :=
 match F3 P e with
 | some (_, _, z) => (l5 env d, newOb env ⟨z.map fun x => .d (.val x), e⟩ d (.ptr env.objs.length 0))
 | none => (False, env)

def o5 (P : Program) (env : Env) (d : Option Nat) (t : TypeId) (n : Nat) (parts : List (Nat × V)) : Prop × Env :=
 match C4 P t with
 | some e => match F3 P e with
  | some (s, _, _) =>
   let r := fillV (fun i => some (i * s, s)) (List.replicate (n * s) .dead) parts
   ((r.1 ∧ n * s ≤ 16777216 ∧ n ≤ 16777216) ∧ l5 env d, newOb env ⟨r.2, e⟩ d (.own env.objs.length 0 n s))
  | none => (False, env)
 | none => (False, env)

def C2 (P : Program) (env : Env) (d : Option Nat) (t : TypeId) (l c : V) : Prop × Env :=
 match l, c, C4 P t with
 | .d (.val (.int _ l)), .d (.val (.int _ c)), some e => match F3 P e with
  | some (s, bytes, [z]) =>
   ((0 ≤ l ∧ l ≤ c ∧ c * bytes ≤ 140737488355328 ∧ c ≤ 140737488355328 ∧ s = 1) ∧ l5 env d, newOb env ⟨List.replicate l.toNat (.d (.val z)), e⟩ d (.own env.objs.length 0 l.toNat 1))
  | _ => (False, env)
 | _, _, _ => (False, env)

def srcF (objs : List Ob) (sz : Nat) : V → Prop × Nat × List V
 | .own j off n sz' => (sz' = sz ∧ off + n * sz ≤ (cellsOf objs j).length, n, seg (cellsOf objs j) off (n * sz))
 | .d (.list n cells) => (cells.length = n * sz, n, cells.map .d)
 | .d (.val (.slice none 0 0)) => (True, 0, [])
 | _ => (False, 0, [])

def zerF (P : Program) (t' : TypeId) (z : List Value) : V → Prop × Nat × List V
 | .d (.val (.int _ k)) => match kindOf P t', z with
  | some _, [z0] => (0 ≤ k, k.toNat, List.replicate k.toNat (.d (.val z0)))
  | _, _ => (False, 0, [])
 | _ => (False, 0, [])
def m6 (P : Program) (objs : List Ob) (t t' : TypeId) (sz : Nat) (z : List Value) (x : V) : Prop × Nat × List V :=
 if t' = t then srcF objs sz x else zerF P t' z x

def q4 (P : Program) (env : Env) (d : Option Nat) (t t' : TypeId) (s x : V) : Prop × Env :=
 match C4 P t with
 | some e => match F3 P e with
  | some (sz, bytes, z) =>
   match s with
   | .own i off n sz' => match env.objs[i]? with
    | some ob =>
     let src := m6 P env.objs t t' sz z x
     ((src.1 ∧ off = 0 ∧ sz' = sz ∧ n * sz = ob.cells.length ∧ ob.e = e ∧ src.2.2.all oneV = true ∧ sz ≠ 0 ∧ (n + src.2.1) * bytes ≤ 140737488355328 ∧ n + src.2.1 ≤ 140737488355328) ∧ l5 env d,
      putO (C6 env i ob src.2.2) d (.own i 0 (n + src.2.1) sz))
    | none => (False, env)
   | .d (.val (.slice none 0 0)) =>
    let src := m6 P env.objs t t' sz z x
    ((src.1 ∧ src.2.2.all oneV = true ∧ sz ≠ 0 ∧ src.2.1 * bytes ≤ 140737488355328 ∧ src.2.1 ≤ 140737488355328) ∧ l5 env d,
     putO (C6 { env with objs := env.objs ++ [⟨[], e⟩] } env.objs.length ⟨[], e⟩ src.2.2) d (.own env.objs.length 0 src.2.1 sz))
   | _ => (False, env)
  | none => (False, env)
 | none => (False, env)

def capF (P : Program) (t : TypeId) (x : V) : Prop × V :=
 match C4 P t, x with
 | some _, .d (.val (.slice none 0 0)) => (True, .d (.val (.int .i64 0)))
 | _, _ => (False, .dead)

def E9 (P : Program) (env : Env) (d : Option Nat) (b : Builtin) (ts : List TypeId) (xs : List V) : Prop × Env :=
 match b, ts, xs with
 | .len, [t], [x] => pureF env d (lenF P t x)
 | .min, _, [x, y] => pureF env d (minF x y)
 | .max, _, [x, y] => pureF env d (maxF x y)
 | .min, _, [x, y, z] => pureF env d (min3F x y z)
 | .max, _, [x, y, z] => pureF env d (max3F x y z)
 | .append, [t, t'], [s, x] => q4 P env d t t' s x
 | .cap, [t], [x] => pureF env d (capF P t x)
 | _, _, _ => (False, env)

def y8 (P : Program) (env : Env) (o : Oper) : Prop × Env :=
 match o.op with
 | .store t p v => B7 P env o.dst t (ev env p) (ev env v)
 | .box e x => boxF env o.dst e (ev env x)
 | .alloc e => allocF P env o.dst e
 | .buildSlice t n parts => o5 P env o.dst t n (parts.toList.map fun x => (x.1, ev env x.2))
 | .makeSlice t l c => C2 P env o.dst t (ev env l) (ev env c)
 | .makeFunc (.func f) first caps => (first.toList = [] ∧ l5 env o.dst, putO env o.dst (.clo f (caps.toList.map (ev env))))
 | .build t parts => pureF env o.dst (buildF P t (parts.toList.map fun x => (x.1, ev env x.2)))
 | .call c => match c.callee with
  | .builtin b => E9 P env o.dst b c.argTypes.toList (c.args.toList.map (ev env))
  | _ => (False, env)
 | op => pureF env o.dst (opF P env op)

section
variable {P : Program} {B : Nat} {w0 : World} {S0 : Nat → Prop} {φ : Nat → Option Nat} {env : Env} {a : Act} {w : World}

theorem noDefer_value {o : Oper} {ρ : Operand → Value} {v : Value} {w' : World} (h : (execOp ρ o).run P w = .ok (.value v) w') : ∀ c, o.op ≠ .defer c := by
 intro c hc
 unfold execOp at h
 rw [hc] at h
 simp only [Sem.run_bind] at h
 cases hr : (resolve ρ c o.type).run P w with
 | ok d w1 => simp [hr] at h
 | halt x w1 => simp [hr] at h
theorem noDefer_enter {o : Oper} {ρ : Operand → Value} {f : FuncId} {us : Array Value} {w' : World} (h : (execOp ρ o).run P w = .ok (.enter f us) w') : ∀ c, o.op ≠ .defer c := by
 intro c hc
 unfold execOp at h
 rw [hc] at h
 simp only [Sem.run_bind] at h
 cases hr : (resolve ρ c o.type).run P w with
 | ok d w1 => simp [hr] at h
 | halt x w1 => simp [hr] at h
theorem noDefer_skip {o : Oper} {ρ : Operand → Value} {w' : World} (h : (execOp ρ o).run P w = .ok .skip w') : ∀ c, o.op ≠ .defer c := by
 intro c hc
 unfold execOp at h
 rw [hc] at h
 simp only [Sem.run_bind] at h
 cases hr : (resolve ρ c o.type).run P w with
 | ok d w1 => simp [hr] at h
 | halt x w1 => simp [hr] at h

theorem B3 {ro : Option Nat} {n : Nat} {o : Oper} {K : Act → World → Prop} {Q : Exit → Act → World → Prop} {v : Value} {w' : World} (h : (execOp a.eval o).run P w = .ok (.value v) w') (hk : K (a.put o.dst v) w') : o.wpIn (Fd ro) n P a w K Q := by
 refine ⟨fun _ _ => trivial, ?_⟩
 rw [Oper.semAt_eq _ _ _ (noDefer_value h), h]; exact hk
theorem wp_skipped {ro : Option Nat} {n : Nat} {o : Oper} {K : Act → World → Prop} {Q : Exit → Act → World → Prop} {w' : World} (h : (execOp a.eval o).run P w = .ok .skip w') (hk : K (a.put o.dst undef) w') : o.wpIn (Fd ro) n P a w K Q := by
 refine ⟨fun _ _ => trivial, ?_⟩
 rw [Oper.semAt_eq _ _ _ (noDefer_skip h), h]; exact hk

theorem wp_enter {ro : Option Nat} {o : Oper} {K : Act → World → Prop} {Q : Exit → Act → World → Prop} {f : FuncId} {us : Array Value} {w' : World} (h : (execOp a.eval o).run P w = .ok (.enter f us) w')
  (hk : Calls P f us w' fun e w'' => ∃ v, e = .returned v ∧ K (a.put o.dst v) w'') : o.wpIn (Fd ro) 1 P a w K Q := by
 refine ⟨fun _ _ => trivial, ?_⟩
 rw [Oper.semAt_eq _ _ _ (noDefer_enter h), h, Oper.uponIn_enter]
 refine ⟨fun _ => Nat.le_refl _, F9.2 (hk.mono ?_)⟩
 rintro e w'' ⟨v, rfl, hK⟩
 exact hK

theorem Rel.glob (h : Rel B w0 S0 φ env a w) : GI w.heap.size w (Imm B S0 φ env.objs.length) :=
 h.base.2.mono h.below h.baseW fun b hb hs => ⟨.inl hs, fun i hi he => Nat.lt_irrefl _ (Nat.lt_of_lt_of_le hb (h.low i b hi he))⟩
theorem Rel.ev (h : Rel B w0 S0 φ env a w) (x : Operand) : RepV w (Imm B S0 φ env.objs.length) φ env.objs.length (ev env x) (a.eval x) := by
 cases x with
 | tmp t => exact h.tmps t
 | const v => exact constV_rep v
 | global g => exact h.glob.rep g
 | func f => simp only [PW.ev, RepV, RepD, Act.eval]; exact ⟨[], rfl, by simp [RepAll]⟩

theorem Rel.putO (h : Rel B w0 S0 φ env a w) (d : Option Nat) (hd : l5 env d) (r : V) (v : Value) (hv : RepV w (Imm B S0 φ env.objs.length) φ env.objs.length r v) :
  Rel B w0 S0 φ (PW.putO env d r) (a.put d v) w := by
 cases d with
 | none => exact h
 | some d => exact h.put d hd r v hv

theorem Rel.evs (h : Rel B w0 S0 φ env a w) : ∀ (xs : List Operand), RepVs w (Imm B S0 φ env.objs.length) φ env.objs.length (xs.map (PW.ev env)) (xs.map a.eval)
 | [] => by simp [RepVs]
 | x :: xs => by simp only [List.map_cons, RepVs]; exact ⟨_, _, rfl, h.ev x, h.evs xs⟩

theorem objsRep (h : Rel B w0 S0 φ env a w) : ∀ i ob, env.objs[i]? = some ob → ObRep w (Imm B S0 φ env.objs.length) φ env.objs.length i ob := h.objs

theorem opF_sound (h : Rel B w0 S0 φ env a w) {o : Oper} (hc : (opF P env o.op).1) :
  ∃ v, (execOp a.eval o).run P w = .ok (.value v) w ∧ RepV w (Imm B S0 φ env.objs.length) φ env.objs.length (opF P env o.op).2 v := by
 obtain ⟨dst, op, ty, pos, after, guard⟩ := o
 cases op with
 | move x => exact ⟨_, by simp [execOp], h.ev x⟩
 | assign x => exact ⟨_, by simp [execOp], h.ev x⟩
 | pick c x y =>
  obtain ⟨b, hb, hr⟩ := pickF_sound (h.ev c) (h.ev x) (h.ev y) hc
  exact ⟨_, by simp [execOp, hb, asBool]; rfl, by simpa [opF] using hr⟩
 | binOp op t x y yt =>
  obtain ⟨u, hu, hr⟩ := binF_sound x y (h.ev x) (h.ev y) hc
  exact ⟨u, by simp only [execOp, Sem.run_bind, Sem.run_pure] at hu ⊢; rw [hu]; rfl, hr⟩
 | unOp op t x =>
  obtain ⟨u, hu, hr⟩ := unF_sound (P := P) (h.ev x) hc
  exact ⟨u, by simp [execOp, hu], hr⟩
 | convert s t x =>
  obtain ⟨u, hu, hr⟩ := convF_sound (h.ev x) hc
  exact ⟨u, by simp [execOp, hu], hr⟩
 | fieldAddr s x f =>
  obtain ⟨u, hu, hr⟩ := fieldAddrF_sound (h.ev x) hc
  exact ⟨u, by simp [execOp, hu], hr⟩
 | indexAddr t x i =>
  obtain ⟨u, hu, hr⟩ := indexAddrF_sound (h.ev x) (h.ev i) hc
  exact ⟨u, by simp [execOp, hu], hr⟩
 | load t x =>
  obtain ⟨u, hu, hr⟩ := loadF_sound (objsRep h) (h.ev x) hc
  exact ⟨u, by simp [execOp, hu], hr⟩
 | field t x f =>
  obtain ⟨u, hu, hr⟩ := fieldF_sound (h.ev x) hc
  exact ⟨u, by simp [execOp, hu], hr⟩
 | index t x i =>
  obtain ⟨u, hu, hr⟩ := indexF_sound (h.ev x) (h.ev i) hc
  exact ⟨u, by simp [execOp, hu], hr⟩
 | slice t x lo hi mx =>
  cases mx with
  | some m =>
   cases lo with
   | none => exact hc.elim
   | some l =>
    cases hi with
    | none => exact hc.elim
    | some r =>
     obtain ⟨u, hu, hr⟩ := slice3F_sound (h.ev x) (h.ev l) (h.ev r) (h.ev m) hc
     exact ⟨u, by simp [execOp, hu], hr⟩
  | none =>
   have hopt : ∀ y : Option Operand, OptRep w (Imm B S0 φ env.objs.length) φ env.objs.length (y.map (PW.ev env)) (y.map a.eval) := by
    intro y; cases y with
    | none => simp [OptRep]
    | some y => simpa [OptRep] using h.ev y
   obtain ⟨u, hu, hr⟩ := sliceF_sound (h.ev x) (hopt lo) (hopt hi) hc
   exact ⟨u, by simp [execOp, hu], hr⟩
 | extract x k =>
  obtain ⟨u, hu, hr⟩ := extractF_sound (P := P) (h.ev x) hc
  exact ⟨u, by simp [execOp, hu], hr⟩
 | nilCheck x =>
  obtain ⟨ad, hv, hr⟩ := nilF_sound (h.ev x) hc
  refine ⟨a.eval x, by simp [execOp, hv], ?_⟩
  have : (opF P env (.nilCheck x)).2 = PW.ev env x := hr
  simp only [this]; exact h.ev x
 | _ => exact hc.elim
end
end Go.PW
