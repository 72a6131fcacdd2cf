/-
 Regions that draw their order, with operations in front that make blocks of the call's own. For every program.
-/
import Derived.Test.YtklejiafioalnaaPwR
set_option linter.all false
namespace Go.PW
open Go.RowKit

section
variable {w w' : World} {S S' : Nat → Prop} {φ φ' : Nat → Option Nat} {m m' : Nat}


end

section
variable {B : Nat} {w0 : World} {S0 : Nat → Prop} {φ : Nat → Option Nat} {env : Env} {a : Act} {w w' : World} {nt : Nat} {objs : List Ob} {gs : Nat × List (V × Value × Nat)} {th : (Nat → World → Prop) × Bool} {f : Nat → V}
variable {P : Program} {ops : Array Oper} {md : Region.Mode}

def Made (B : Nat) (S0 : Nat → Prop) (φ : Nat → Option Nat) (N k : Nat) (ob : Ob) (r : V) (w : World) (v : Value) (w' : World) : Prop :=
 Grows w w' ∧ ∃ g : Option Nat, (∀ x, g = some x → w.heap.size ≤ x) ∧ ObRep w' (Imm B S0 (φnew φ k g) N) (φnew φ k g) N k ob ∧ RepV w' (Imm B S0 (φnew φ k g) N) (φnew φ k g) N r v

variable {mk : Nat → Option (Nat × Ob)} {wr : Nat → Option (Nat × Ob × Ob)}

def mkL : List Nat → List Ob → Nat → Nat → Option (Nat × Ob)
 | j :: js, ob :: obs, k, i => if i = j then some (k, ob) else mkL js obs (k + 1) i
 | _, _, _, _ => none

def makeOwn (P : Program) (t : TypeId) (l c : V) (k : Nat) : Prop × Ob × V :=
 match l, c, selOf P t with
 | .d (.val (.int _ l)), .d (.val (.int _ c)), some e => match tyOf P e with
  | some (s, bytes, [z]) => ((0 ≤ l ∧ l ≤ c ∧ c * bytes ≤ 140737488355328 ∧ c ≤ 140737488355328 ∧ s = 1), ⟨List.replicate l.toNat (.d (.val z)), e⟩, .own k 0 l.toNat 1)
  | _ => (False, ⟨[], 0⟩, .dead)
 | _, _, _ => (False, ⟨[], 0⟩, .dead)
def memB : List Nat → Nat → Bool
 | j :: js, i => j == i || memB js i
 | [], _ => false
def freshA (P : Program) (env : Env) (o : Oper) : Option (Prop × V) :=
 match o.op with
 | .buildSlice t n parts => match n, parts.toList, selOf P t with
  | 0, [], some e => match tyOf P e with
   | some _ => some (True, .emp)
   | none => none
  | _, _, _ => none
 | .call c => match c.callee, c.argTypes.toList, c.args.toList with
  | .builtin .append, [t, t'], [s, x] => match ev env s, ev env x, selOf P t with
   | .emp, .d (.list n cells), some e => match tyOf P e with
    | some (sz, bytes, _) => some (t' = t ∧ sz = 1 ∧ cells.length = n ∧ (cells.map V.d).all oneV = true ∧ n * bytes ≤ 140737488355328 ∧ n ≤ 140737488355328, .d (.list n cells))
    | none => none
   | _, _, _ => none
  | _, _, _ => none
 | _ => none
def headB : List Nat → Nat → Bool
 | j :: _, i => j == i
 | [], _ => false
def preO (P : Program) (ds : List (Option Nat)) (n0 : Nat) (es : List TypeId) : List Oper → Nat → List Nat → List Nat → Env → List Ob → Prop × Env × List Oper × Nat × List Nat × List Nat × List Ob
 | [], i, own, wd, env, acc => (True, env, [], i, own, wd, acc)
 | o :: rest, i, own, wd, env, acc =>
  if isCallB o then (True, env, o :: rest, i, own, wd, acc) else
  if headB own i then
   match o.op, o.guard with
   | .alloc e, none => match tyOf P e with
    | some (_, _, z) => match preO P ds n0 es rest (i + 1) own.tail wd (putO env o.dst (.ptr (n0 + acc.length) 0)) (acc ++ [⟨z.map fun x => .d (.val x), e⟩]) with
     | (c', env'', l, i', own', wd', acc') => ((es[acc.length]? = some e ∧ n0 + acc.length < env.objs.length ∧ okDst env o.dst) ∧ c', env'', l, i', own', wd', acc')
    | none => (False, env, [], i, own, wd, acc)
   | .makeSlice t l c, none => match preO P ds n0 es rest (i + 1) own.tail wd (putO env o.dst (makeOwn P t (ev env l) (ev env c) (n0 + acc.length)).2.2) (acc ++ [(makeOwn P t (ev env l) (ev env c) (n0 + acc.length)).2.1]) with
    | (c', env'', l', i', own', wd', acc') => ((es[acc.length]? = some (makeOwn P t (ev env l) (ev env c) (n0 + acc.length)).2.1.e ∧ n0 + acc.length < env.objs.length ∧ okDst env o.dst ∧ (makeOwn P t (ev env l) (ev env c) (n0 + acc.length)).1) ∧ c', env'', l', i', own', wd', acc')
   | _, _ => (False, env, [], i, own, wd, acc)
  else match o.guard with
  | none => match o.op with
   | .store t p v => match ev env p, tyOf P t with
    | .ptr k off, some (s, _, _) => match acc[k - n0]? with
     | some x => match preO P ds n0 es rest (i + 1) own ((k - n0) :: wd) env (acc.set (k - n0) { x with cells := PW.setMany x.cells off (cellsV (ev env v)) }) with
      | (c', env'', l, i', own', wd', acc') => ((o.dst = none ∧ n0 ≤ k ∧ memB wd (k - n0) = false ∧ (cellsV (ev env v)).length = s ∧ off + s ≤ x.cells.length ∧ (cellsV (ev env v)).all oneV = true) ∧ c', env'', l, i', own', wd', acc')
     | none => (False, env, [], i, own, wd, acc)
    | _, _ => (False, env, [], i, own, wd, acc)
   | _ => match freshA P env o with
   | some (c, r) => match preO P ds n0 es rest (i + 1) own wd (putO env o.dst r) acc with
    | (c', env'', l, i', own', wd', acc') => ((c ∧ okDst env o.dst) ∧ c', env'', l, i', own', wd', acc')
   | none => match pureA P env o with
   | (c, r) => match preO P ds n0 es rest (i + 1) own wd (putO env o.dst r) acc with
    | (c', env'', l, i', own', wd', acc') => ((c ∧ okDst env o.dst) ∧ c', env'', l, i', own', wd', acc')
  | some gd => match guardC ds env.tmps (some gd) with
   | none => (False, env, [], i, own, wd, acc)
   | some g => match pureA P (env.under g) o with
    | (c, r) => match preO P ds n0 es rest (i + 1) own wd (putO env o.dst (.guarded g r)) acc with
     | (c', env'', l, i', own', wd', acc') => (((g = true → c) ∧ okDst env o.dst) ∧ c', env'', l, i', own', wd', acc')

end
attribute [go_sem] freshA preO memB makeD makeOwn headB List.tail_cons List.tail_nil
end Go.PW
