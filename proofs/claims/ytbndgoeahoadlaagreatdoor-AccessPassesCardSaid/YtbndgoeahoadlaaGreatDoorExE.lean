import Derived.Test.YtbndgoeahoadlaaGreatDoorPwX
import Derived.Test.YtbndgoeahoadlaaGreatDoorPwBl
import Derived.Test.YtbndgoeahoadlaaGreatDoorPwF4
import Derived.Laws.Strings
import Derived.Test.YtbndgoeahoadlaaGreatDoorPwRA
set_option linter.all false
namespace Go.PW
open Go.RowKit

section
variable {P : Program}
instance decBad : Decidable bad.1 := isFalse id
instance decLoad (objs : List Ob) (t : TypeId) (x : V) : Decidable (loadF P objs t x).1 := by delta loadF; split <;> infer_instance
instance decFieldAddr (s : TypeId) (x : V) (f : Nat) : Decidable (F7 P s x f).1 := by delta F7; split <;> (try split) <;> infer_instance
instance decIndexAddr (t : TypeId) (x ix : V) : Decidable (F5 P t x ix).1 := by delta F5; split <;> (try split) <;> (try split) <;> infer_instance
instance decField (t : TypeId) (x : V) (f : Nat) : Decidable (fieldF P t x f).1 := by delta fieldF; split <;> (try split) <;> infer_instance
instance decExtract (x : V) (k : Nat) : Decidable (extractF x k).1 := by delta extractF; split <;> infer_instance
instance decLen (t : TypeId) (x : V) : Decidable (lenF P t x).1 := by delta lenF; split <;> infer_instance
instance decSlice (t : TypeId) (x : V) (lo hi : Option V) : Decidable (sliceF P t x lo hi).1 := by delta sliceF; split <;> (try split) <;> (try split) <;> (try split) <;> infer_instance
instance decSlice3 (t : TypeId) (x lo hi mx : V) : Decidable (slice3F P t x lo hi mx).1 := by delta slice3F; split <;> (try split) <;> (try split) <;> infer_instance
instance decIndex (t : TypeId) (x ix : V) : Decidable (indexF P t x ix).1 := by delta indexF; split <;> (try split) <;> (try split) <;> infer_instance
instance decPtr (op : BinOp) (b : Bool) : Decidable (ptrB op b).1 := by delta ptrB; split <;> infer_instance
instance decBin (op : BinOp) (t : TypeId) (x y : V) : Decidable (binF P op t x y).1 := by delta binF; split <;> (try split) <;> (try split) <;> infer_instance
instance decUn (op : UnOp) (x : V) : Decidable (unF op x).1 := by delta unF; split <;> infer_instance
instance decConv (s t : TypeId) (x : V) : Decidable (convF P s t x).1 := by delta convF; split <;> (try split) <;> infer_instance
instance decPick (c a b : V) : Decidable (pickF c a b).1 := by delta pickF; split <;> (try delta pickC) <;> infer_instance
instance decMin (a b : V) : Decidable (minF a b).1 := by delta minF; split <;> infer_instance
instance decMax (a b : V) : Decidable (maxF a b).1 := by delta maxF; split <;> infer_instance
instance decMin3 (a b c : V) : Decidable (min3F a b c).1 := by delta min3F; infer_instance
instance decMax3 (a b c : V) : Decidable (max3F a b c).1 := by delta max3F; infer_instance
instance decFill (place : Nat → Option (Nat × Nat)) : ∀ (parts : List (Nat × V)) (cells : List V), Decidable (fillV place cells parts).1
 | [], _ => isTrue trivial
 | (i, v) :: rest, cells => by
  have := decFill place rest
  unfold fillV; split <;> infer_instance
instance decBuild (t : TypeId) (parts : List (Nat × V)) : Decidable (buildF P t parts).1 := by delta buildF; split <;> (try split) <;> (try split) <;> infer_instance
instance decNil (x : V) : Decidable (nilF x).1 := by delta nilF; split <;> infer_instance
instance decOp (env : Env) (op : Op) : Decidable (opF P env op).1 := by delta opF; split <;> infer_instance
instance decDst (env : Env) (d : Option Nat) : Decidable (l5 env d) := by delta l5; split <;> infer_instance
instance decPure (env : Env) (d : Option Nat) (r : Prop × V) [Decidable r.1] : Decidable (pureF env d r).1 := by delta pureF; infer_instance
instance decStore (env : Env) (d : Option Nat) (t : TypeId) (p v : V) : Decidable (B7 P env d t p v).1 := by delta B7; split <;> (try split) <;> infer_instance
instance decBox (env : Env) (d : Option Nat) (e : TypeId) (x : V) : Decidable (boxF env d e x).1 := by delta boxF; infer_instance
instance decAlloc (env : Env) (d : Option Nat) (e : TypeId) : Decidable (allocF P env d e).1 := by delta allocF; split <;> infer_instance
instance decBuildSlice (env : Env) (d : Option Nat) (t : TypeId) (n : Nat) (parts : List (Nat × V)) : Decidable (o5 P env d t n parts).1 := by delta o5; split <;> (try split) <;> infer_instance
instance decMakeSlice (env : Env) (d : Option Nat) (t : TypeId) (l c : V) : Decidable (C2 P env d t l c).1 := by delta C2; split <;> (try split) <;> infer_instance
instance decSrc (objs : List Ob) (sz : Nat) (x : V) : Decidable (srcF objs sz x).1 := by delta srcF; split <;> infer_instance
instance decZer (t' : TypeId) (z : List Value) (x : V) : Decidable (zerF P t' z x).1 := by delta zerF; split <;> (try split) <;> infer_instance
instance decAppSrc (objs : List Ob) (t t' : TypeId) (sz : Nat) (z : List Value) (x : V) : Decidable (m6 P objs t t' sz z x).1 := by delta m6; split <;> infer_instance
instance decAppend (env : Env) (d : Option Nat) (t t' : TypeId) (s x : V) : Decidable (q4 P env d t t' s x).1 := by delta q4; split <;> (try split) <;> (try split) <;> (try split) <;> infer_instance
instance decCap (t : TypeId) (x : V) : Decidable (capF P t x).1 := by delta capF; split <;> infer_instance
instance decBuiltin (env : Env) (d : Option Nat) (b : Builtin) (ts : List TypeId) (xs : List V) : Decidable (E9 P env d b ts xs).1 := by delta E9; split <;> infer_instance
instance decStep (env : Env) (o : Oper) : Decidable (y8 P env o).1 := by delta y8; split <;> (try split) <;> infer_instance
instance decBuildD (env : Env) (t n : Nat) (parts : List (Nat × V)) : Decidable (buildD P env t n parts).1 := by delta buildD; split <;> (try split) <;> (try dsimp only) <;> (try split) <;> infer_instance
instance decMakeD (t : TypeId) (l c : V) : Decidable (makeD P t l c).1 := by delta makeD; split <;> (try split) <;> infer_instance
instance decPureA0 (env : Env) (o : Oper) : Decidable (pureA0 P env o).1 := by delta pureA0; split <;> (try split) <;> infer_instance
instance decPureA (env : Env) (o : Oper) : Decidable (u3 P env o).1 := by delta u3; split <;> infer_instance
instance decRes1 (env : Env) (x : ResultVar) : Decidable (E4 P env x).1 := by delta E4; split <;> (try split) <;> infer_instance
instance decRes (rs : List ResultVar) (env : Env) : Decidable (resV P rs env).1 := by delta resV; split <;> infer_instance
end
end Go.PW

namespace Go.PW
open Go.RowKit
noncomputable section

inductive Tr
 | nil
 | node (v : V) (l r : Tr)
def Tr.get : Tr → Nat → V := fun T => Tr.rec (motive := fun _ => Nat → V) (fun _ => .dead) (fun v _ _ gl gr t => Nat.casesOn (motive := fun _ => V) t v fun k => Nat.casesOn (motive := fun _ => V) (k % 2) (gl (k / 2)) fun _ => gr (k / 2)) T
def E1 : Nat → Tr → Nat → V → Tr := fun n => Nat.rec (motive := fun _ => Tr → Nat → V → Tr) (fun T _ _ => T) (fun _ ih T t u => Tr.casesOn (motive := fun _ => Tr) T
  (Nat.casesOn (motive := fun _ => Tr) t (.node u .nil .nil) fun k => Nat.casesOn (motive := fun _ => Tr) (k % 2) (.node .dead (ih .nil (k / 2) u) .nil) fun _ => .node .dead .nil (ih .nil (k / 2) u))
  fun v l r => Nat.casesOn (motive := fun _ => Tr) t (.node u l r) fun k => Nat.casesOn (motive := fun _ => Tr) (k % 2) (.node v (ih l (k / 2) u) r) fun _ => .node v l (ih r (k / 2) u)) n
abbrev Tr.K : Nat := 10
def Tr.put (T : Tr) (t : Nat) (u : V) : Tr := E1 Tr.K T t u
def Tr.map (f : V → V) : Tr → Tr
 | .nil => .nil
 | .node v l r => .node (f v) (l.map f) (r.map f)
def Tr.ofL : Nat → List V → Tr → Tr
 | _, [], T => T
 | i, v :: vs, T => Tr.ofL (i + 1) vs (T.put i v)
def Tr.puts (T : Tr) : List (Nat × V) → Tr
 | [] => T
 | x :: l => (T.put x.1 x.2).puts l
def Tr.clear (T : Tr) : List Nat → Tr
 | [] => T
 | t :: l => (T.put t .dead).clear l

structure St where
 T : Tr
 O : List Ob
 ks : List Nat := []
 j : Nat := 0
 q : Bool := false
 g : Nat := 0
 y : List Nat := []

structure ICx where
 T : Tr
 nt : Nat
 ps : List Nat
 assign : Code
 body : Code

inductive Md
 | data
 | meth
 | iter (c : ICx)
 | round

inductive Task
 | code (m : Md) (nt : Nat) (c : Code) (s : St)
 | call (f : FuncId) (ds : List D)
 | callM (f : FuncId) (args : List V) (O : List Ob)

inductive Out
 | code (e : Exit) (s : St)
 | call (r : V) (obs : Obs) (fr : Bool)
 | callM (r : V) (O : List Ob) (ks : List Nat)

structure Tab where
 fns : List Nat
 mth : List Nat
 lib : FuncId → List D → Option (V × Obs)
 libM : FuncId → List V → List Ob → Option (V × List Ob × List Nat) := fun _ _ _ => none
 tls : List (Nat × Nat × Nat) := []
 mrs : List (Nat × Nat × Nat) := []
 fz : List Nat := []
 ors : List (Nat × Nat × Nat) := []

def St.ev (s : St) : Operand → V
 | .tmp t => s.T.get t
 | .const v => constV v
 | .global g => gval g
 | .func f => .d (.clo f [])
def miniT (T : Tr) : List Operand → List (Nat × V)
 | [] => []
 | .tmp t :: l => (t, T.get t) :: miniT T l
 | _ :: l => miniT T l
def St.mini (nt : Nat) (s : St) (xs : List Operand) : Env := ⟨nt, miniT s.T xs, s.O, (0, []), (fun _ _ => True, false)⟩
def okB (objs : List Ob) : Nat → V → Bool
 | _, .d _ => true
 | k + 1, .own i off n sz => decide (i < objs.length) && decide (off + n * sz ≤ (cellsOf objs i).length) && (seg (cellsOf objs i) off (n * sz)).all (okB objs k)
 | k + 1, .ptr i off => decide (i < objs.length) && ((cellsOf objs i).drop off).all (okB objs k)
 | k + 1, .clo _ caps => caps.all (okB objs k)
 | k + 1, .agg vs => vs.all (okB objs k)
 | k + 1, .tup vs => vs.all (okB objs k)
 | _, _ => false

def A8 (objs : List Ob) : Nat → V → Bool
 | _, .d x => isValD x
 | k + 1, .own i off n sz => (seg (cellsOf objs i) off (n * sz)).all (A8 objs k)
 | k + 1, .ptr i off => ((cellsOf objs i).drop off).all (A8 objs k)
 | k + 1, .clo _ caps => caps.all (A8 objs k)
 | k + 1, .agg vs => vs.all (A8 objs k)
 | k + 1, .tup vs => vs.all (A8 objs k)
 | _, _ => false

def res1 (objs : List Ob) (k : Nat) : V → D
 | .d x => x
 | v => toD objs k v
def resD (objs : List Ob) : Nat → V → D
 | k + 1, .tup vs => .tup (vs.map (res1 objs k))
 | k, v => res1 objs k v

def no0x : Md → List Nat → Operand → Bool
 | .iter _, y, .tmp t => !y.contains t
 | _, _, _ => true
def dst0 : Md → List Nat → Option Nat → Bool
 | .iter _, y, some d => !y.contains d
 | _, _, _ => true
def no0 (m : Md) (y : List Nat) (o : Oper) : Bool :=
 match m with
 | .iter _ => o.op.operands.toList.all (no0x m y) && dst0 m y o.dst
 | _ => true
def slB (nt : Nat) : Operand → Bool
 | .tmp t => Nat.blt t nt
 | _ => true
def dstB (nt : Nat) : Option Nat → Bool
 | some d => Nat.blt d nt && Nat.blt d 1000
 | none => true
def okSl (nt : Nat) (o : Oper) : Bool := o.op.operands.toList.all (slB nt) && dstB nt o.dst

def guardX (m : Md) (nt : Nat) (all : List Oper) (s : St) (o : Oper) : Option Bool :=
 match o.guard with
 | none => some true
 | some (j, want) => match (all.map (·.dst)).getD j none with
  | none => none
  | some d => match dst0 m s.y (some d) && Nat.blt d nt with
   | false => none
   | true => match s.T.get d with
    | .d (.val (.bool b)) => some (b == want)
    | .guarded c (.d (.val (.bool b))) => some (c && (b == want))
    | _ => none

def appK (s : St) (o : Oper) : Option Nat :=
 match o.op with
 | .call c => match c.callee, c.args.toList with
  | .builtin .append, x :: _ => match s.ev x with
   | .own i _ _ _ => some i
   | _ => some s.O.length
  | _, _ => none
 | _ => none
def killO : Option Nat → V → V
 | some b => V.kill b
 | none => fun v => v
def killT (T : Tr) : Option Nat → Tr
 | some b => T.map (V.kill b)
 | none => T
def killsO (g : Nat) : Option Nat → List Nat
 | some b => if g ≤ b then [] else [b]
 | none => []
def St.kill (s : St) (ks : List Nat) : Tr :=
 match ks with
 | [] => s.T
 | _ => s.T.map (k9 ks)
def putT (T : Tr) : Option Nat → V → Tr
 | some d, v => T.put d v
 | none, _ => T
def gF : V := .guarded false (A0 false)
abbrev dep : Nat := 9

def isYield (m : Md) (y : List Nat) (o : Oper) : Option (ICx × Nat × List Operand) :=
 match m, o.op with
 | .iter c, .call ⟨.value (.tmp t), xs, _⟩ => if y.contains t then some (c, t, xs.toList) else none
 | _, _ => none
def isAlias (m : Md) (y : List Nat) (o : Oper) : Option (Nat × Nat) :=
 match m, o.op, o.dst with
 | .iter _, .move (.tmp t), some d => if y.contains t then some (t, d) else none
 | _, _, _ => none
def valCall (o : Oper) : Option (Operand × List Operand) :=
 match o.op with
 | .call ⟨.value fo, xs, _⟩ => some (fo, xs.toList)
 | _ => none

def endsB : Exit → Bool
 | .normal | .ret => true
 | _ => false
def extraX (P : Program) (env : Env) (o : Oper) : Option D :=
 match o.op with
 | .convert src dst x => match ev env x, P.underlying src, C4 P dst with
  | .d (.val (.string s)), some _, some e => match P.underlying e with
   | some (.int .u8) => some (.list (bytesL s).length ((bytesL s).map fun x => .val (.int .u8 x)))
   | _ => none
  | _, _, _ => none
 | .binOp op t x y _ => match op, ev env x, ev env y, C4 P t with
  | .eql, .d (.list _ (_ :: _)), .d (.val (.slice none 0 0)), some _ => some (.val (.bool false))
  | .neq, .d (.list _ (_ :: _)), .d (.val (.slice none 0 0)), some _ => some (.val (.bool true))
  | .eql, .own _ _ (_ + 1) _, .d (.val (.slice none 0 0)), some _ => some (.val (.bool false))
  | .neq, .own _ _ (_ + 1) _, .d (.val (.slice none 0 0)), some _ => some (.val (.bool true))
  | .eql, .d (.val (.slice none 0 0)), .d (.val (.slice none 0 0)), some _ => some (.val (.bool true))
  | .neq, .d (.val (.slice none 0 0)), .d (.val (.slice none 0 0)), some _ => some (.val (.bool false))
  | _, _, _, _ => none
 | _ => none
def nilX (P : Program) (env : Env) (o : Oper) : Option Bool :=
 match o.op with
 | .binOp op t x y _ => match op, ev env x, ev env y, C4 P t with
  | .eql, .d (.list _ (_ :: _)), .d (.val (.slice none 0 0)), some _ => some false
  | .neq, .d (.list _ (_ :: _)), .d (.val (.slice none 0 0)), some _ => some true
  | .eql, .own _ _ (_ + 1) _, .d (.val (.slice none 0 0)), some _ => some false
  | .neq, .own _ _ (_ + 1) _, .d (.val (.slice none 0 0)), some _ => some true
  | .eql, .d (.val (.slice none 0 0)), .d (.val (.slice none 0 0)), some _ => some true
  | .neq, .d (.val (.slice none 0 0)), .d (.val (.slice none 0 0)), some _ => some false
  | _, _, _, _ => none
 | _ => none
def selQ (r : Prop × V) [Decidable r.1] : Option V := if r.1 then some r.2 else none
def intQ (op : BinOp) (k k' : IntKind) (a b : Int) : Option V :=
 if k = k' then
 match op with
 | .add => some (vint k (k.wrap (a + b)))
 | .sub => some (vint k (k.wrap (a - b)))
 | .mul => some (vint k (k.wrap (a * b)))
 | .eql => some (A0 (a == b))
 | .neq => some (A0 (a != b))
 | .lss => some (A0 (decide (a < b)))
 | .leq => some (A0 (decide (a ≤ b)))
 | .gtr => some (A0 (decide (a > b)))
 | .geq => some (A0 (decide (a ≥ b)))
 | _ => none
 else none
def binQ (P : Program) (op : BinOp) (t : TypeId) (x y : V) : Option V :=
 match x, y with
 | .d (.val (.int k a)), .d (.val (.int k' b)) => match intQ op k k' a b with
  | some v => some v
  | none => selQ (binF P op t (.d (.val (.int k a))) (.d (.val (.int k' b))))
 | .d (.val (.string a)), .d (.val (.string b)) => match op with
  | .eql => some (A0 (decide (a.data.toList = b.data.toList)))
  | .neq => some (A0 (!decide (a.data.toList = b.data.toList)))
  | _ => selQ (binF P op t (.d (.val (.string a))) (.d (.val (.string b))))
 | x, y => selQ (binF P op t x y)
def opQ (P : Program) (s : St) : Op → Option V
 | .move x => some (s.ev x)
 | .assign x => some (s.ev x)
 | .load t x => selQ (loadF P s.O t (s.ev x))
 | .binOp op t x y _ => binQ P op t (s.ev x) (s.ev y)
 | .indexAddr t x i => selQ (F5 P t (s.ev x) (s.ev i))
 | .fieldAddr t x f => selQ (F7 P t (s.ev x) f)
 | .extract x k => selQ (extractF (s.ev x) k)
 | .nilCheck x => selQ (nilF (s.ev x))
 | .field t x f => selQ (fieldF P t (s.ev x) f)
 | .pick c a b => selQ (pickF (s.ev c) (s.ev a) (s.ev b))
 | .unOp op _ x => selQ (unF op (s.ev x))
 | .index t x i => selQ (indexF P t (s.ev x) (s.ev i))
 | _ => none
def quickQ (P : Program) (m : Md) (s : St) (o : Oper) : Option V :=
 match m with
 | .iter _ => if no0 m s.y o then opQ P s o.op else none
 | _ => opQ P s o.op
section
variable (P : Program) (tb : Tab) (ih : Task → Option Out)

def callX (s : St) (f : FuncId) (vs : List V) : Option (V × Obs) :=
 if vs.all (okB s.O dep) then
  match ih (.call f (vs.map (toD s.O dep))) with
  | some (.call r obs fr) => if vs.all noO || fr || (cleanV r && obs.all fun ob => ob.1.all isValD) then some (r, obs) else none
  | _ => none
 else none

def roundX (c : ICx) (s : St) (us : List V) : Option (Nat × St) :=
 if s.j = 0 ∧ us.length = c.ps.length then
  match ih (.code .round c.nt c.assign { T := ((c.T.map (k9 s.ks)).puts (c.ps.zip us)), O := s.O, g := s.O.length }) with
  | some (.code .normal s1) => match ih (.code .round c.nt c.body s1) with
   | some (.code .normal s2) => some (0, s2)
   | some (.code .ret s2) => some (1, s2)
   | some (.code (.exit id) s2) => some (id + 2, s2)
   | _ => none
  | _ => none
 else none

def frzS (s : St) (j : Nat) : St :=
 match s.O[j]? with
 | some ob => { s with T := s.T.map fun v => v.frz s.O j, O := (s.O.map (frzOb s.O j)).set j ⟨[], ob.e⟩ }
 | none => s
def frzV : List V → St → St
 | [], s => s
 | .own i _ _ _ :: vs, s => if decide (s.g ≤ i) && (cellsOf s.O i).all isD then frzV vs (frzS s i) else frzV vs s
 | .ptr i _ :: vs, s => if decide (s.g ≤ i) && (cellsOf s.O i).all isD then frzV vs (frzS s i) else frzV vs s
 | _ :: vs, s => frzV vs s
def preS (s : St) (fo : Operand) (xs : List Operand) : St :=
 match E0 (s.ev fo) with
 | some (f, caps) => if tb.fz.contains f then frzV (xs.map s.ev ++ caps) s else s
 | none => s
def callS (s : St) (o : Oper) (fo : Operand) (xs : List Operand) : Option St :=
    match E0 (s.ev fo) with
    | some (f, caps) =>
      if tb.mth.contains f then
       match ih (.callM f (xs.map s.ev ++ caps) s.O) with
       | some (.callM r O' ks) => if s.O.length ≤ O'.length then some { s with T := putT (s.kill ks) o.dst r, O := O', ks := s.ks ++ ks } else none
       | _ => none
      else match callX ih s f (xs.map s.ev ++ caps) with
       | some (r, obs) => some { s with T := putT s.T o.dst (r.shift s.O.length), O := s.O ++ obs.map toOb }
       | none => none
    | none => none
def slowX (m : Md) (nt : Nat) (s : St) (o : Oper) : Option St :=
 match isYield m s.y o with
 | some (c, _, xs) =>
  if dst0 m s.y o.dst && xs.all (no0x m s.y) then
   match roundX ih c s (xs.map s.ev) with
   | some (j, s2) => some { T := putT (s.kill s2.ks) o.dst (A0 (j == 0)), O := s2.O, ks := s.ks ++ s2.ks, j := j, q := s.q, g := s.g, y := s.y }
   | none => none
  else none
 | none =>
  match isAlias m s.y o with
  | some (_, d) => some { s with T := s.T.put d .dead, y := d :: s.y }
  | none =>
  if no0 m s.y o then
   match valCall o with
   | some (fo, xs) =>
    callS tb ih (preS tb s fo xs) o fo xs
   | none =>
    let E := s.mini nt o.op.operands.toList
    match extraX P E o with
    | some x => some { s with T := putT s.T o.dst (.d x) }
    | none => if (y8 P E o).1 then some { s with T := putT (killT s.T (appK s o)) o.dst (get (y8 P E o).2.tmps (o.dst.getD 0)), O := (y8 P E o).2.objs, ks := s.ks ++ killsO s.g (appK s o) } else none
  else none
def opX (m : Md) (nt : Nat) (s : St) (o : Oper) : Option St :=
 if okSl nt o then
  match quickQ P m s o with
  | some v => some { s with T := putT s.T o.dst v }
  | none => slowX P tb ih m nt s o
 else none

def opsX (m : Md) (nt : Nat) (all : List Oper) : List Oper → St → Option St
 | [], s => some s
 | o :: rest, s =>
  match guardX m nt all s o with
  | some true => match opX P tb ih m nt s { o with guard := none } with
   | some s' => opsX m nt all rest s'
   | none => none
  | some false => if dstB nt o.dst && dst0 m s.y o.dst then opsX m nt all rest { s with T := putT s.T o.dst gF } else none
  | none => none

def slowR (nt : Nat) (s : St) (o : Oper) : Option V :=
 match valCall o with
 | some (fo, xs) => match E0 (s.ev fo) with
  | some (f, caps) => match callX ih s f (xs.map s.ev ++ caps) with
   | some (.d x, []) => some (.d x)
   | _ => none
  | none => none
 | none =>
  let E := s.mini nt o.op.operands.toList
  match nilX P E o with
  | some b => some (A0 b)
  | none => if (u3 P E o).1 then some (u3 P E o).2 else none
def readX (nt : Nat) (s : St) (o : Oper) : Option V :=
 match opQ P s o.op with
 | some v => some v
 | none => slowR P ih nt s o
def frontX (m : Md) (nt : Nat) (all : List Oper) : List Oper → St → Option St
 | [], s => some s
 | o :: rest, s =>
  if okSl nt o && no0 m s.y o then
   match guardX m nt all s o with
   | some true => match readX P ih nt s o with
    | some r => frontX m nt all rest { s with T := putT s.T o.dst r }
    | none => none
   | some false => frontX m nt all rest { s with T := putT s.T o.dst gF }
   | none => none
  else none

def isEff (o : Oper) : Bool :=
 match o.op with
 | .store .. | .alloc _ | .box .. => true
 | .call c => match c.callee with | .builtin .append => true | _ => false
 | _ => false
def effs (l : List Oper) : List Nat := (l.zipIdx.filter fun x => isEff x.1).map (·.2)
def keepsB (b : Nat) : V → Bool
 | .own j _ _ _ => j != b
 | .ptr j _ => j != b
 | .slf j => j != b
 | .agg vs => keepsBs vs
 | .clo _ vs => keepsBs vs
 | .tup vs => keepsBs vs
 | .guarded _ r => keepsB b r
 | _ => true
where
 keepsBs : List V → Bool
 | [] => true
 | v :: vs => keepsB b v && keepsBs vs

def sameX : Value → Value → Bool
 | .int k n, .int k' n' => decide (k = k') && decide (n = n')
 | .bool a, .bool b => a == b
 | .string a, .string b => decide (a.data.toList = b.data.toList)
 | .pointer none, .pointer none => true
 | .slice none 0 0, .slice none 0 0 => true
 | .nilFunc, .nilFunc => true
 | _, _ => false
def sameD : D → D → Bool
 | .val x, .val y => sameX x y
 | .list n c, .list n' c' => n == n' && sameDs c c'
 | .ref c, .ref c' => sameDs c c'
 | .agg c, .agg c' => sameDs c c'
 | .clo f c, .clo f' c' => f == f' && sameDs c c'
 | .tup c, .tup c' => sameDs c c'
 | _, _ => false
where
 sameDs : List D → List D → Bool
 | [], [] => true
 | x :: xs, y :: ys => sameD x y && sameDs xs ys
 | _, _ => false
def sameV : V → V → Bool
 | .d x, .d y => sameD x y
 | .own i o n z, .own i' o' n' z' => i == i' && o == o' && n == n' && z == z'
 | .ptr i o, .ptr i' o' => i == i' && o == o'
 | .agg c, .agg c' => sameVs c c'
 | .clo f c, .clo f' c' => f == f' && sameVs c c'
 | .tup c, .tup c' => sameVs c c'
 | .guarded a r, .guarded a' r' => a == a' && sameV r r'
 | .dead, .dead => true
 | .slf i, .slf i' => i == i'
 | .emp, .emp => true
 | _, _ => false
where
 sameVs : List V → List V → Bool
 | [], [] => true
 | x :: xs, y :: ys => sameV x y && sameVs xs ys
 | _, _ => false
def sameOs : List Ob → List Ob → Bool
 | [], [] => true
 | x :: xs, y :: ys => x.e == y.e && sameV.sameVs x.cells y.cells && sameOs xs ys
 | _, _ => false
structure EffR where
 O1 : List Ob
 kb : Option Nat
 r : V
 ext : Bool
def effX (nt : Nat) (s : St) (o : Oper) : Option EffR :=
 match o.op, o.dst with
 | .store t p v, none => if (B7 P (s.mini nt []) none t (s.ev p) (s.ev v)).1 then some ⟨(B7 P (s.mini nt []) none t (s.ev p) (s.ev v)).2.objs, none, .dead, false⟩ else none
 | .alloc e, some _ => match F3 P e with
  | some (_, _, z) => some ⟨s.O ++ [⟨z.map fun x => .d (.val x), e⟩], none, .ptr s.O.length 0, true⟩
  | none => none
 | .box e x, some _ => if (r6 (s.ev x)).all oneV = true then some ⟨s.O ++ [⟨r6 (s.ev x), e⟩], none, .ptr s.O.length 0, true⟩ else none
 | .call ⟨.builtin .append, ⟨[sv, x]⟩, ⟨[t, t']⟩⟩, some d =>
  let r := q4 P (s.mini nt []) (some d) t t' (s.ev sv) (s.ev x)
  if r.1 then
   match s.ev sv with
   | .own b _ _ _ => if s.g ≤ b then some ⟨r.2.objs, some b, get r.2.tmps d, false⟩ else none
   | _ => if s.g ≤ s.O.length then some ⟨r.2.objs, some s.O.length, get r.2.tmps d, false⟩ else none
  else none
 | _, _ => none
def v6 (o : Oper) (i : Nat) : Bool := o.after.toList.any fun e => Region.binds .any e && e.on == i
def noMem (o : Oper) : Bool := match o.op with | .load .. => false | _ => true
def isExt (o : Oper) : Bool := match o.op with | .alloc _ | .box .. => true | _ => false
def keepsO : Option Nat → V → Bool
 | some b, v => keepsB b v
 | none, _ => true
def inY (m : Md) (y : List Nat) (t : Nat) : Bool := !no0x m y (.tmp t)
def lookB (m : Md) (ops : Array Oper) (kb : Option Nat) (s : St) (o : Oper) : Bool :=
 match kb with
 | none => true
 | some b => (o.looksAt ops).all fun t => inY m s.y t || keepsB b (s.T.get t)
def stillX (m : Md) (nt : Nat) (ops : Array Oper) (kb : Option Nat) (O1 : List Ob) (oe : Oper) (s : St) (o : Oper) (r : V) : Bool :=
 (match valCall o with
  | some (fo, xs) => isExt oe || (match E0 (s.ev fo) with
   | some (_, caps) => (xs.map s.ev ++ caps).all isD
   | none => false)
  | none => noMem o || (decide (u3 P ({ s with O := O1 }.mini nt o.op.operands.toList) o).1 && sameV (u3 P ({ s with O := O1 }.mini nt o.op.operands.toList) o).2 r)) && keepsO kb r && lookB m ops kb s o
def freeX (m : Md) (ops : Array Oper) (kb : Option Nat) (e : Nat) (oe : Oper) (s : St) : Bool :=
 kb.isNone || (List.range ops.size).all fun j => j == e || (match ops[j]? with
  | some oj => v6 oe j || v6 oj e || lookB m ops kb s oj
  | none => true)
def frontE (m : Md) (nt : Nat) (ops : Array Oper) (kb : Option Nat) (O1 : List Ob) (e : Nat) (oe : Oper) : List Oper → Nat → St → Option EffR → Option (St × EffR)
 | [], _, s, some R => some (s, R)
 | [], _, _, none => none
 | o :: rest, i, s, R =>
  if okSl nt o && no0 m s.y o && o.guard.isNone then
   if i = e then match R, effX P nt s o with
    | none, some R => if decide (R.kb = kb) && sameOs R.O1 O1 && freeX m ops kb e oe s then frontE m nt ops kb O1 e oe rest (i + 1) { s with T := putT (killT s.T kb) o.dst R.r } (some R) else none
    | _, _ => none
   else if v6 oe i then match readX P ih nt s o with
    | some r => frontE m nt ops kb O1 e oe rest (i + 1) { s with T := putT s.T o.dst r } R
    | none => none
   else if v6 o e then match R with
    | some _ => match readX P ih nt { s with O := O1 } o with
     | some r => frontE m nt ops kb O1 e oe rest (i + 1) { s with T := putT s.T o.dst r } R
     | none => none
    | none => none
   else match readX P ih nt s o with
    | some r => if stillX P m nt ops kb O1 oe s o r then frontE m nt ops kb O1 e oe rest (i + 1) { s with T := putT s.T o.dst r } R else none
    | none => none
  else none
def dsts (l : List Oper) : List Nat := l.filterMap (·.dst)
def dstsB (nt : Nat) (l : List Oper) : Bool := decide (dsts l).Nodup && (dsts l).all fun d => dstB nt (some d)
def frontW (m : Md) (nt : Nat) (ops : List Oper) (n e : Nat) (s : St) : Option St :=
 match ops[e]? with
 | some oe =>
  let s0 : St := { s with T := s.T.clear (dsts (ops.take n)) }
  if dstsB nt (ops.take n) && (dsts (ops.take n)).all (fun d => dst0 m s.y (some d)) then
   match frontX P ih m nt ops (ops.take e) s0 with
   | some s1 => match effX P nt s1 oe with
    | some R0 => match frontE P ih m nt ops.toArray R0.kb R0.O1 e oe (ops.take n) 0 s0 none with
     | some (s2, R) => some { s2 with O := R.O1 }
     | none => none
    | none => none
   | none => none
  else none
 | none => none

def mthCall (o : Oper) : Bool :=
 match valCall o with
 | some (.func f, _) => tb.mth.contains f
 | _ => false
def isEffV (o : Oper) : Bool := isEff o || mthCall tb o
def effV (nt : Nat) (s : St) (o : Oper) : Option EffR :=
 match valCall o with
 | some (fo, xs) => match E0 (s.ev fo) with
  | some (f, caps) => match ih (.callM f (xs.map s.ev ++ caps) s.O) with
   | some (.callM r O1 []) => if s.O.length ≤ O1.length then some ⟨O1, none, r, false⟩ else none
   | _ => none
  | none => none
 | none => if o.guard.isNone then effX P nt s o else none
structure PV where
 rs : List V
 es : List (Nat × List Ob × Option Nat)
 s : St
def passV (m : Md) (nt : Nat) (all : List Oper) : List Oper → Nat → St → Option PV
 | [], _, s => some ⟨[], [], s⟩
 | o :: rest, i, s =>
  if okSl nt o && no0 m s.y o then
   match guardX m nt all s o with
   | some true =>
    if isEffV tb o then match effV P ih nt s o with
     | some R => match passV m nt all rest (i + 1) { s with T := putT (killT s.T R.kb) o.dst R.r, O := R.O1 } with
      | some p => some ⟨R.r :: p.rs, (i, R.O1, R.kb) :: p.es, p.s⟩
      | none => none
     | none => none
    else match readX P ih nt s o with
     | some r => match passV m nt all rest (i + 1) { s with T := putT s.T o.dst r } with
      | some p => some ⟨r :: p.rs, p.es, p.s⟩
      | none => none
     | none => none
   | some false => match passV m nt all rest (i + 1) { s with T := putT s.T o.dst gF } with
    | some p => some ⟨gF :: p.rs, p.es, p.s⟩
    | none => none
   | none => none
  else none
def stillV (nt : Nat) (s : St) (o : Oper) (r : V) (Oj : List Ob) : Bool :=
 match valCall o with
 | some (fo, xs) => match E0 (s.ev fo) with
  | some (_, caps) => (xs.map s.ev ++ caps).all isD || ((xs.map s.ev ++ caps).all (okB Oj dep) && sameD.sameDs ((xs.map s.ev ++ caps).map (toD s.O dep)) ((xs.map s.ev ++ caps).map (toD Oj dep)))
  | none => false
 | none => noMem o || (decide (u3 P ({ s with O := Oj }.mini nt o.op.operands.toList) o).1 && sameV (u3 P ({ s with O := Oj }.mini nt o.op.operands.toList) o).2 r)
def mayV (ops : Array Oper) (cs : List Nat) (o : Oper) (i j : Nat) : Bool :=
 cs.zipIdx.all fun x => (!v6 o x.1 || Nat.blt x.2 j) && (match ops[x.1]? with | some oc => !v6 oc i || Nat.ble j x.2 | none => true)
def holdV (m : Md) (ops : Array Oper) (cs : List Nat) (kbs : List (Option Nat)) (o : Oper) (r : V) (i : Nat) (s : St) : Bool :=
 cs.zipIdx.all fun x => (match ops[x.1]? with | some oc => v6 oc i | none => true) || v6 o x.1 || (keepsO (kbs.getD x.2 none) r && lookB m ops (kbs.getD x.2 none) s o)
def readV (m : Md) (nt : Nat) (ops : Array Oper) (cs : List Nat) (os : List (List Ob)) (kbs : List (Option Nat)) (o : Oper) (r : V) (i q : Nat) (s : St) : Bool :=
 holdV m ops cs kbs o r i s &&
 (List.range (cs.length + 1)).all fun j => Nat.beq j q || !mayV ops cs o i j || stillV P nt s o r (os.getD j [])
def checkV (m : Md) (nt : Nat) (all : List Oper) (ops : Array Oper) (cs : List Nat) (os : List (List Ob)) (kbs : List (Option Nat)) : List Oper → List V → Nat → Nat → St → Bool
 | [], _, _, _, _ => true
 | o :: rest, rs, i, q, s =>
  match rs with
  | [] => false
  | r :: rs =>
  match guardX m nt all s o with
  | some true =>
   if isEffV tb o then decide (cs.idxOf? i = some q) && freeX m ops (kbs.getD q none) i o s && checkV m nt all ops cs os kbs rest rs (i + 1) (q + 1) { s with T := putT (killT s.T (kbs.getD q none)) o.dst r, O := os.getD (q + 1) [] }
   else decide (cs.idxOf? i = none) && readV P m nt ops cs os kbs o r i q s && checkV m nt all ops cs os kbs rest rs (i + 1) q { s with T := putT s.T o.dst r }
  | _ => decide (cs.idxOf? i = none) && holdV m ops cs kbs o r i s && checkV m nt all ops cs os kbs rest rs (i + 1) q { s with T := putT s.T o.dst r }
def chainV (ops : Array Oper) (n : Nat) : List Nat → Bool
 | a :: b :: l => Nat.blt a b && (match ops[b]? with | some o => v6 o a | none => true) && chainV ops n (b :: l)
 | [a] => Nat.blt a n
 | [] => true
def frontV (m : Md) (nt : Nat) (ops : List Oper) (n : Nat) (s : St) : Option St :=
 if dstsB nt (ops.take n) && (dsts (ops.take n)).all (fun d => dst0 m s.y (some d)) then
  match passV P tb ih m nt ops (ops.take n) 0 { s with T := s.T.clear (dsts (ops.take n)) } with
  | some p => if chainV ops.toArray n (p.es.map (·.1)) && checkV P tb m nt ops ops.toArray (p.es.map (·.1)) (s.O :: p.es.map (·.2.1)) (p.es.map (·.2.2)) (ops.take n) p.rs 0 0 { s with T := s.T.clear (dsts (ops.take n)) } then some p.s else none
  | none => none
 else none

def ownsO (l : List Oper) : List (Nat × TypeId) := l.zipIdx.filterMap fun x => match x.1.op with
 | .alloc e => some (x.2, e)
 | _ => none
def passO (m : Md) (nt : Nat) (all : List Oper) (n0 : Nat) (es : List TypeId) : List Oper → Nat → List Nat → List Nat → St → List Ob → Option (St × List Ob)
 | [], _, own, _, s, acc => match own with
  | [] => some (s, acc)
  | _ => none
 | o :: rest, i, own, wd, s, acc =>
  if okSl nt o && no0 m s.y o then
   if headB own i then match o.op, o.guard with
    | .alloc e, none => match F3 P e with
     | some (_, _, z) => if decide (es[acc.length]? = some e) && Nat.blt (n0 + acc.length) s.O.length then passO m nt all n0 es rest (i + 1) own.tail wd { s with T := putT s.T o.dst (.ptr (n0 + acc.length) 0) } (acc ++ [⟨z.map fun x => .d (.val x), e⟩]) else none
     | none => none
    | _, _ => none
   else match o.op, o.guard with
    | .store t p v, none => match s.ev p, F3 P t with
     | .ptr k off, some (sz, _, _) => match acc[k - n0]? with
      | some x => if decide (o.dst = none ∧ n0 ≤ k ∧ memB wd (k - n0) = false ∧ (r6 (s.ev v)).length = sz ∧ off + sz ≤ x.cells.length ∧ (r6 (s.ev v)).all oneV = true) then
        passO m nt all n0 es rest (i + 1) own ((k - n0) :: wd) s (acc.set (k - n0) { x with cells := PW.setMany x.cells off (r6 (s.ev v)) }) else none
      | none => none
     | _, _ => none
    | _, _ => match guardX m nt all s o with
     | some true => match readX P ih nt s o with
      | some r => passO m nt all n0 es rest (i + 1) own wd { s with T := putT s.T o.dst r } acc
      | none => none
     | some false => passO m nt all n0 es rest (i + 1) own wd { s with T := putT s.T o.dst gF } acc
     | none => none
  else none
def pwB : List Nat → Bool
 | a :: b :: l => Nat.blt a b && pwB (b :: l)
 | _ => true
def frontO (m : Md) (nt : Nat) (ops : List Oper) (n : Nat) (s : St) : Option St :=
 if pwB ((ownsO (ops.take n)).map (·.1)) then
  match passO P ih m nt ops s.O.length ((ownsO (ops.take n)).map (·.2)) (ops.take n) 0 ((ownsO (ops.take n)).map (·.1)) [] { s with O := s.O ++ ((ownsO (ops.take n)).map (·.2)).map fun e => ⟨[], e⟩ } [] with
  | some (s2, acc) => some { s2 with O := s.O ++ acc }
  | none => none
 else none

def tailOf (tls : List (Nat × Nat × Nat)) (id : Nat) (ops : List Oper) : Option Nat :=
 match ((tls.filter fun x => x.1 == id && x.2.1 == ops.length).map (·.2.2)).find? fun n => Region.lexTailB .any ops.toArray n with
 | some n => some n
 | none => (List.range ops.length).find? fun n => Region.lexTailB .any ops.toArray n

def arrSl (s : St) (o : Oper) : Option Nat :=
 match o.op with
 | .slice t (.tmp x) _ _ none => match arrOf P t, s.T.get x with
  | some _, .ptr i _ => some i
  | _, _ => none
 | _ => none
def hasSl : List Oper → Bool
 | [] => false
 | o :: l => (match o.op with
  | .slice t (.tmp _) _ _ none => (arrOf P t).isSome
  | _ => false) || hasSl l
def frzX : List Oper → St → St
 | [], s => s
 | o :: l, s => match arrSl P s o with
  | some j => if decide (s.g ≤ j) && (cellsOf s.O j).all isD then frzX l (frzS s j) else frzX l s
  | none => frzX l s

def regionX (m : Md) (nt id : Nat) (ops : List Oper) (draw : Bool) (s0 : St) : Option St :=
 let s := if hasSl P ops then frzX P ops s0 else s0
 if draw then
  match tailOf tb.tls id ops with
  | some n => if tb.ors.contains (id, ops.length, n) then
    match frontO P ih m nt ops n s with
    | some s' => opsX P tb ih m nt ops (ops.drop n) s'
    | none => none
   else if tb.mrs.contains (id, ops.length, n) then
    match frontV P tb ih m nt ops n s with
    | some s' => opsX P tb ih m nt ops (ops.drop n) s'
    | none => none
   else match effs (ops.take n) with
   | [] => match frontX P ih m nt ops (ops.take n) s with
    | some s' => opsX P tb ih m nt ops (ops.drop n) s'
    | none => none
   | [e] => match frontW P ih m nt ops n e s with
    | some s' => opsX P tb ih m nt ops (ops.drop n) s'
    | none => none
   | _ => none
  | none => none
 else opsX P tb ih m nt ops ops s

def seqX (m : Md) (nt : Nat) (x y : Code) (s : St) : Option Out :=
 match ih (.code m nt x s) with
 | some (.code .normal s') => ih (.code m nt y s')
 | r => r
def blockX (m : Md) (nt id : Nat) (x : Code) (s : St) : Option Out :=
 match ih (.code m nt x s) with
 | some (.code (.exit id') s') => if id' = id then some (.code .normal s') else some (.code (.exit id') s')
 | r => r
def condX (m : Md) (nt : Nat) (o : Operand) (x y : Code) (s : St) : Option Out :=
 if slB nt o && no0x m s.y o then match s.ev o with
  | .d (.val (.bool b)) => ih (.code m nt (if b = true then x else y) s)
  | _ => none else none
def loopX (m : Md) (nt : Nat) (x : Code) (s : St) : Option Out :=
 match ih (.code m nt x s) with
 | some (.code .normal s') => ih (.code m nt (.loop x) s')
 | r => r
def regX (m : Md) (nt id : Nat) (ops : Array Oper) (draw : Bool) (s : St) : Option Out :=
 match regionX P tb ih m nt id ops.toList draw s with
 | some s' => some (.code .normal s')
 | none => none
def rangeX (m : Md) (nt : Nat) (g : Operand) (ps : Array Tmp) (assign body : Code) (s : St) : Option Out :=
 match m with
 | .data => match E0 (s.ev g) with
  | some (gf, caps) => if slB nt g && tb.fns.contains gf && ps.toList.all (fun p => dstB nt (some p)) && decide (caps.length ≤ 500) then
   match P.funcs[gf]? with
   | some fn => match fn.body, fn.results.toList with
    | some cg, [] => match ih (.code (.iter ⟨s.T, nt, ps.toList, assign, body⟩) fn.ntmps cg { T := Tr.ofL 1 caps .nil, O := s.O, g := s.O.length, y := [0] }) with
     | some (.code e s1) => if endsB e = true then
       if s1.j = 0 then some (.code .normal { T := s.kill s1.ks, O := s1.O, ks := s.ks ++ s1.ks, q := true, g := s.g, y := s.y })
       else if s1.j = 1 then some (.code .ret { T := s.kill s1.ks, O := s1.O, ks := s.ks ++ s1.ks, q := true, g := s.g, y := s.y })
       else some (.code (.exit (s1.j - 2)) { T := s.kill s1.ks, O := s1.O, ks := s.ks ++ s1.ks, q := true, g := s.g, y := s.y })
      else none
     | _ => none
    | _, _ => none
   | none => none
   else none
  | none => none
 | _ => none

def codeX (m : Md) (nt : Nat) (c : Code) (s : St) : Option Out :=
 match c with
 | .skip => some (.code .normal s)
 | .label _ => some (.code .normal s)
 | .exit id => some (.code (.exit id) s)
 | .ret => some (.code .ret s)
 | .seq x y => seqX ih m nt x y s
 | .block id x => blockX ih m nt id x s
 | .cond o x y => condX ih m nt o x y s
 | .loop x => loopX ih m nt x s
 | .region id ops draw => regX P tb ih m nt id ops draw s
 | .rangeFunc g ps assign body => rangeX P tb ih m nt g ps assign body s
 | _ => none

def resOps (rs : List ResultVar) : List Operand := rs.map fun x => match x with
 | .tmp t => .tmp t
 | .cell a _ => .tmp a
def taskX : Task → Option Out
 | .code m nt c s => codeX P tb ih m nt c s
 | .call f ds =>
  match tb.lib f ds with
  | some (r, obs) => some (.call r obs false)
  | none => if tb.fns.contains f && decide (ds.length ≤ 500) then
   match P.funcs[f]? with
   | some fn => match fn.body with
    | some c => match ih (.code .data fn.ntmps c { T := Tr.ofL 0 (ds.map V.d) .nil, O := [] }) with
     | some (.code e s) => if endsB e = true then
       if (resOps fn.results.toList).all (slB fn.ntmps) = true ∧ (resV P fn.results.toList (s.mini fn.ntmps (resOps fn.results.toList))).1 ∧ okB s.O dep (resV P fn.results.toList (s.mini fn.ntmps (resOps fn.results.toList))).2 = true then some (.call (.d (resD s.O dep (resV P fn.results.toList (s.mini fn.ntmps (resOps fn.results.toList))).2)) [] (A8 s.O dep (resV P fn.results.toList (s.mini fn.ntmps (resOps fn.results.toList))).2)) else none
      else none
     | _ => none
    | none => none
   | none => none
   else none
 | .callM f args O => match tb.libM f args O with
  | some (r, O', ks) => some (.callM r O' ks)
  | none => if tb.fns.contains f && decide (args.length ≤ 500) then
   match P.funcs[f]? with
   | some fn => match fn.body with
    | some c => match ih (.code .meth fn.ntmps c { T := Tr.ofL 0 args .nil, O := O, g := O.length }) with
     | some (.code e s) => if endsB e = true then
       if (resOps fn.results.toList).all (slB fn.ntmps) = true ∧ (resV P fn.results.toList (s.mini fn.ntmps (resOps fn.results.toList))).1 then some (.callM (resV P fn.results.toList (s.mini fn.ntmps (resOps fn.results.toList))).2 s.O s.ks) else none
      else none
     | _ => none
    | none => none
   | none => none
   else none

end
def runX (P : Program) (tb : Tab) : Nat → Task → Option Out := fun n => Nat.rec (fun _ => none) (fun _ ih t => taskX P tb ih t) n
theorem runX_succ (P : Program) (tb : Tab) (n : Nat) (t : Task) : runX P tb (n + 1) t = taskX P tb (runX P tb n) t := rfl
end
end Go.PW

namespace Go.PW
open Go.RowKit

theorem Tr.get_succ (v : V) (l r : Tr) (k : Nat) : (Tr.node v l r).get (k + 1) = if k % 2 = 0 then l.get (k / 2) else r.get (k / 2) := by
 have h : (Tr.node v l r).get (k + 1) = Nat.casesOn (motive := fun _ => V) (k % 2) (l.get (k / 2)) fun _ => r.get (k / 2) := rfl
 rw [h]
 rcases Nat.mod_two_eq_zero_or_one k with e | e <;> rw [e] <;> rfl
theorem Tr.putN_zero (n : Nat) (T : Tr) (u : V) : E1 (n + 1) T 0 u = match T with | .nil => .node u .nil .nil | .node _ l r => .node u l r := by cases T <;> rfl
theorem Tr.putN_succ (n : Nat) (T : Tr) (k : Nat) (u : V) : E1 (n + 1) T (k + 1) u = match T with
  | .nil => if k % 2 = 0 then .node .dead (E1 n .nil (k / 2) u) .nil else .node .dead .nil (E1 n .nil (k / 2) u)
  | .node v l r => if k % 2 = 0 then .node v (E1 n l (k / 2) u) r else .node v l (E1 n r (k / 2) u) := by
 cases T with
 | nil =>
  have h : E1 (n + 1) .nil (k + 1) u = Nat.casesOn (motive := fun _ => Tr) (k % 2) (.node .dead (E1 n .nil (k / 2) u) .nil) fun _ => .node .dead .nil (E1 n .nil (k / 2) u) := rfl
  rw [h]
  rcases Nat.mod_two_eq_zero_or_one k with e | e <;> simp only [e] <;> rfl
 | node v l r =>
  have h : E1 (n + 1) (.node v l r) (k + 1) u = Nat.casesOn (motive := fun _ => Tr) (k % 2) (.node v (E1 n l (k / 2) u) r) fun _ => .node v l (E1 n r (k / 2) u) := rfl
  rw [h]
  rcases Nat.mod_two_eq_zero_or_one k with e | e <;> simp only [e] <;> rfl
theorem Tr.get_putN : ∀ (n : Nat) (T : Tr) (t : Nat) (u : V) (s : Nat), t + 1 < 2 ^ n → (E1 n T t u).get s = if s = t then u else T.get s := by
 intro n
 induction n with
 | zero => intro T t u s h; simp at h
 | succ n ih =>
  intro T t u s h
  cases t with
  | zero =>
   rw [Tr.putN_zero]
   cases T with
   | nil =>
    cases s with
    | zero => rfl
    | succ k => rw [Tr.get_succ, if_neg (show ¬ k + 1 = 0 by omega)]; split <;> rfl
   | node v l r =>
    cases s with
    | zero => rfl
    | succ k => rw [if_neg (show ¬ k + 1 = 0 by omega)]; simp only [Tr.get_succ]
  | succ j =>
   have hj : j / 2 + 1 < 2 ^ n := by rw [Nat.pow_succ] at h; omega
   rw [Tr.putN_succ]
   have key : ∀ (v : V) (l r : Tr), (∀ t, (Tr.node v l r).get t = T.get t) → Tr.get (if j % 2 = 0 then .node v (E1 n l (j / 2) u) r else .node v l (E1 n r (j / 2) u)) s = if s = j + 1 then u else T.get s := by
    intro v l r hT
    rw [← hT s]
    cases s with
    | zero => rw [if_neg (show ¬ (0:Nat) = j + 1 by omega)]; split <;> rfl
    | succ k =>
     by_cases hj2 : j % 2 = 0
     ·
      rw [if_pos hj2]
      simp only [Tr.get_succ]
      by_cases hk2 : k % 2 = 0
      ·
       rw [if_pos hk2, if_pos hk2, ih _ _ _ _ hj]
       by_cases e : k = j
       · subst e; rw [if_pos rfl, if_pos rfl]
       · rw [if_neg (show ¬ k / 2 = j / 2 by omega), if_neg (show ¬ k + 1 = j + 1 by omega)]
      · rw [if_neg hk2, if_neg hk2, if_neg (show ¬ k + 1 = j + 1 by omega)]
     ·
      rw [if_neg hj2]
      simp only [Tr.get_succ]
      by_cases hk2 : k % 2 = 0
      · rw [if_pos hk2, if_pos hk2, if_neg (show ¬ k + 1 = j + 1 by omega)]
      ·
       rw [if_neg hk2, if_neg hk2, ih _ _ _ _ hj]
       by_cases e : k = j
       · subst e; rw [if_pos rfl, if_pos rfl]
       · rw [if_neg (show ¬ k / 2 = j / 2 by omega), if_neg (show ¬ k + 1 = j + 1 by omega)]
   cases T with
   | nil =>
    refine key .dead .nil .nil fun t => ?_
    cases t with
    | zero => rfl
    | succ k => rw [Tr.get_succ]; split <;> rfl
   | node v l r => exact key v l r fun _ => rfl
theorem Tr.get_put {T : Tr} {t : Nat} {u : V} {s : Nat} (h : t < 1000) : (T.put t u).get s = if s = t then u else T.get s := Tr.get_putN _ _ _ _ _ (by simp only [Tr.K]; omega)
theorem Tr.get_map {f : V → V} (hf : f .dead = .dead) : ∀ (T : Tr) (t : Nat), (T.map f).get t = f (T.get t)
 | .nil, t => hf.symm
 | .node v l r, t => by
  cases t with
  | zero => rfl
  | succ k => simp only [Tr.map, Tr.get_succ]; split <;> exact Tr.get_map hf _ _
theorem Tr.get_ofL : ∀ (vs : List V) (i : Nat) (T : Tr) (t : Nat), i + vs.length ≤ 1000 → (Tr.ofL i vs T).get t = if i ≤ t ∧ t < i + vs.length then vs.getD (t - i) .dead else T.get t
 | [], i, T, t, _ => by
  simp only [Tr.ofL, List.length_nil, Nat.add_zero]
  rw [if_neg (by omega)]
 | v :: vs, i, T, t, h => by
  simp only [List.length_cons] at h ⊢
  simp only [Tr.ofL]
  rw [Tr.get_ofL vs (i + 1) _ t (by omega), Tr.get_put (by omega)]
  by_cases h1 : t = i
  ·
   subst h1
   rw [if_neg (by omega), if_pos rfl, if_pos (by omega)]
   simp
  ·
   by_cases h2 : i + 1 ≤ t ∧ t < i + 1 + vs.length
   ·
    rw [if_pos h2, if_pos (by omega)]
    obtain ⟨k, rfl⟩ : ∃ k, t = i + 1 + k := ⟨t - (i + 1), by omega⟩
    rw [show i + 1 + k - (i + 1) = k by omega, show i + 1 + k - i = k + 1 by omega]
    simp
   · rw [if_neg h2, if_neg h1, if_neg (by omega)]
theorem Tr.get_clear : ∀ (l : List Nat) (T : Tr) (t : Nat), (∀ d ∈ l, d < 1000) → (T.clear l).get t = if l.contains t then .dead else T.get t
 | [], T, t, _ => by simp [Tr.clear]
 | d :: l, T, t, h => by
  simp only [Tr.clear]
  rw [Tr.get_clear l _ t fun x hx => h x (by simp [hx]), Tr.get_put (h d (by simp))]
  by_cases h1 : l.contains t = true
  · rw [if_pos h1, if_pos (by simp only [List.contains_cons, h1, Bool.or_true])]
  ·
   rw [if_neg h1]
   by_cases h2 : t = d
   · subst h2; rw [if_pos rfl, if_pos (by simp)]
   · rw [if_neg h2, if_neg (by simp only [List.contains_cons, Bool.or_eq_true, beq_iff_eq]; exact fun h => h.elim h2 h1)]

theorem s6 {nt : Nat} {f : Nat → V} (t : Nat) : get (A5 nt f) t = if t < nt then f t else .dead := by
 by_cases h : t < nt
 ·
  rw [if_pos h]
  have h2 := get_slotsL (nt := nt) (ff := fun t => if t < nt then f t else .dead) (fun t ht => if_neg (by omega))
  have h3 : A5 nt (fun t => if t < nt then f t else .dead) = A5 nt f := by
   simp only [A5]
   refine List.map_congr_left fun x hx => ?_
   rw [if_pos (List.mem_range.1 hx)]
  rw [h3] at h2
  rw [h2]
  show (if t < nt then f t else .dead) = f t
  exact if_pos h
 ·
  rw [if_neg h]
  exact get_absent _ _ fun x hx e => by
   obtain ⟨y, hy, rfl⟩ := List.mem_map.1 hx
   have := List.mem_range.1 hy
   simp only at e; omega

structure Eqv (e e' : Env) : Prop where
 nt : e'.nt = e.nt
 objs : e'.objs = e.objs
 gs : e'.gs = e.gs
 th : e'.th = e.th
 tmps : ∀ t, get e'.tmps t = get e.tmps t
theorem Eqv.refl (e : Env) : Eqv e e := ⟨rfl, rfl, rfl, rfl, fun _ => rfl⟩
theorem Eqv.trans {a b c : Env} (h : Eqv a b) (k : Eqv b c) : Eqv a c := ⟨k.nt.trans h.nt, k.objs.trans h.objs, k.gs.trans h.gs, k.th.trans h.th, fun t => (k.tmps t).trans (h.tmps t)⟩
theorem Eqv.putO {e e' : Env} (h : Eqv e e') (d : Option Nat) (v : V) : Eqv (putO e d v) (putO e' d v) := by
 cases d with
 | none => exact h
 | some d => exact ⟨h.nt, h.objs, h.gs, h.th, fun t => by simp only [PW.putO, Env.put, get_put, h.tmps]⟩
section
variable {ro : Option Nat} {P : Program} {all l : List Oper} {K : Env → Prop} {Q : Exit → Env → Prop} {c : Code} {e e' : Env}
theorem OW.eqv (h : Eqv e e') (hO : OW ro P all l e K) : OW ro P all l e' K := OW.weaken (Nat.le_of_eq h.nt.symm) h.objs.symm (fun t => .inl (h.tmps t).symm) hO h.gs.symm h.th.symm
end

abbrev yv (L : Nat) : V := .d (.val (.func (.yield L) #[] #[]))

structure Base where
 ro : Option Nat
 it : Option Nat
 G : Gh
 th : Nat → Bool → (Nat → World → Prop) × Bool

noncomputable def Base.slot (b : Base) (s : St) (t : Nat) : V :=
 match b.it with
 | none => s.T.get t
 | some L => if s.y.contains t then yv L else s.T.get t
noncomputable def mk (b : Base) (nt : Nat) (s : St) : Env := ⟨nt, A5 nt (b.slot s), s.O, (s.g, b.G.map fun x => (k9 s.ks x.1, x.2)), b.th s.j s.q⟩

def pendX (j : Nat) : Option Code := if j = 1 then some .ret else some (.exit (j - 2))

structure FitsI (c : ICx) (b : Base) (lc : LoopCtx) (m0 : Nat) (G0 : Gh) : Prop where
 ro : b.ro = none
 it : b.it = some lc.L
 ps : lc.ps.toList = c.ps
 as : lc.assign = c.assign
 bd : lc.body = c.body
 pd : lc.pend = pendX
 nt : c.nt ≤ lc.ts.size
 pl : ∀ p ∈ c.ps, p < c.nt ∧ p < 1000
 G : b.G = toG (A5 c.nt c.T.get) lc.ts m0 ++ G0
 th : b.th = fun j _ => (lc.th j, false)

def Fits : Md → Base → Prop
 | .data, b => b.ro = none ∧ b.it = none ∧ b.th = fun _ q => ((fun _ _ => True), q)
 | .meth, b => b.ro = none ∧ b.it = none ∧ ∃ p, b.th = fun _ _ => (p, false)
 | .round, b => b.it = none ∧ ∃ t, b.th = fun _ _ => t
 | .iter c, b => ∃ lc m0 G0, FitsI c b lc m0 G0

theorem Fits.zz {m : Md} {b : Base} (h : Fits m b) : b.it = none ∨ ∃ c L, m = .iter c ∧ b.it = some L := by
 cases m with
 | data => exact .inl h.2.1
 | meth => exact .inl h.2.1
 | round => exact .inl h.1
 | iter c => obtain ⟨lc, m0, G0, h⟩ := h; exact .inr ⟨c, lc.L, rfl, h.it⟩

theorem slot_out {b : Base} {s : St} {t : Nat} (h : b.it = none ∨ s.y.contains t = false) : b.slot s t = s.T.get t := by
 unfold Base.slot
 split
 · rfl
 ·
  rename_i L hL
  rcases h with h | h
  · rw [h] at hL; cases hL
  · rw [if_neg (by rw [h]; simp)]
theorem slot_in {b : Base} {s : St} {t L : Nat} (h : b.it = some L) (hy : s.y.contains t = true) : b.slot s t = yv L := by
 simp only [Base.slot, h, hy, if_true]
theorem no0x_t {m : Md} {b : Base} (hb : Fits m b) {y : List Nat} {t : Nat} (h : no0x m y (.tmp t) = true) : b.it = none ∨ y.contains t = false := by
 rcases hb.zz with hz | ⟨c, L, rfl, hz⟩
 · exact .inl hz
 ·
  right
  simpa [no0x] using h
theorem dst0_t {m : Md} {b : Base} (hb : Fits m b) {y : List Nat} {t : Nat} (h : dst0 m y (some t) = true) : b.it = none ∨ y.contains t = false := by
 rcases hb.zz with hz | ⟨c, L, rfl, hz⟩
 · exact .inl hz
 ·
  right
  simpa [dst0] using h

theorem slB_t {nt t : Nat} (h : slB nt (.tmp t) = true) : t < nt := by simpa [slB, Nat.blt_eq] using h
theorem dstB_t {nt d : Nat} (h : dstB nt (some d) = true) : d < nt ∧ d < 1000 := by simpa [dstB, Nat.blt_eq] using h
theorem D9 {nt : Nat} {d : Option Nat} (h : dstB nt d = true) {env : Env} (he : env.nt = nt) : l5 env d := by
 cases d with
 | none => trivial
 | some d => subst he; exact (dstB_t h).1

theorem ev_mk {m : Md} {b : Base} (hb : Fits m b) {nt : Nat} {s : St} {x : Operand} (h : no0x m s.y x = true) (hn : slB nt x = true) : ev (mk b nt s) x = s.ev x := by
 cases x with
 | tmp t =>
  simp only [ev, mk, St.ev]
  rw [s6, if_pos (slB_t hn)]
  exact slot_out (no0x_t hb h)
 | _ => rfl
theorem evs_mk {m : Md} {b : Base} (hb : Fits m b) {nt : Nat} {s : St} {xs : List Operand} (h : xs.all (no0x m s.y) = true) (hn : ∀ x ∈ xs, slB nt x = true) : xs.map (ev (mk b nt s)) = xs.map s.ev :=
 List.map_congr_left fun x hx => ev_mk hb (List.all_eq_true.1 h x hx) (hn x hx)

theorem no0_opd {m : Md} {y : List Nat} {o : Oper} (h : no0 m y o = true) : ∀ x ∈ o.op.operands.toList, no0x m y x = true := by
 intro x hx
 cases m with
 | iter c => simp only [no0, Bool.and_eq_true, List.all_eq_true] at h; exact h.1 x hx
 | _ => rfl
theorem r8 {m : Md} {y : List Nat} {o : Oper} (h : no0 m y o = true) : dst0 m y o.dst = true := by
 cases m with
 | iter c => simp only [no0, Bool.and_eq_true] at h; exact h.2
 | _ => rfl
theorem G7 {nt : Nat} {o : Oper} (h : okSl nt o = true) : ∀ x ∈ o.op.operands.toList, slB nt x = true := by
 simp only [okSl, Bool.and_eq_true, List.all_eq_true] at h
 exact h.1
theorem D4 {nt : Nat} {o : Oper} (h : okSl nt o = true) : dstB nt o.dst = true := by
 simp only [okSl, Bool.and_eq_true] at h
 exact h.2

theorem ev_mini {nt : Nat} {s : St} : ∀ {xs : List Operand} {x : Operand}, x ∈ xs → ev (s.mini nt xs) x = s.ev x := by
 intro xs x hx
 cases x with
 | tmp t =>
  simp only [ev, St.mini, St.ev]
  induction xs with
  | nil => cases hx
  | cons y xs ih =>
   rcases List.mem_cons.1 hx with hx' | hx'
   · subst hx'; simp only [miniT, get, if_true]
   ·
    cases y with
    | tmp u =>
     simp only [miniT, get]
     split
     · rename_i e; rw [e]
     · exact ih hx'
    | _ => exact ih hx'
 | _ => rfl

theorem putO_mk {m : Md} {b : Base} (hb : Fits m b) {nt : Nat} {s : St} {d : Option Nat} {v : V} (h : dst0 m s.y d = true) (hd : dstB nt d = true) : Eqv (mk b nt { s with T := putT s.T d v }) (putO (mk b nt s) d v) := by
 cases d with
 | none => exact Eqv.refl _
 | some d =>
  obtain ⟨h1, h2⟩ := dstB_t hd
  refine ⟨rfl, rfl, rfl, rfl, fun t => ?_⟩
  simp only [putO, Env.put, PW.get_put, mk, s6, putT]
  by_cases ht : t = d
  ·
   subst ht
   rw [if_pos rfl, if_pos h1]
   exact ((slot_out (s := { s with T := s.T.put t v }) (dst0_t hb h)).trans ((Tr.get_put h2).trans (if_pos rfl))).symm
  ·
   rw [if_neg ht]
   split
   ·
    unfold Base.slot
    simp only [Tr.get_put h2, if_neg ht]
   · rfl

theorem killAll_d (ks : List Nat) (x : D) : k9 ks (.d x) = .d x := by
 induction ks with
 | nil => rfl
 | cons k ks ih => simpa [k9, V.kill] using ih
theorem killAll_app (a b : List Nat) (v : V) : k9 (a ++ b) v = k9 b (k9 a v) := by simp [k9, List.foldl_append]
theorem slots_map {nt : Nat} {f : Nat → V} (g : V → V) : (A5 nt f).map (fun x => (x.1, g x.2)) = A5 nt fun t => g (f t) := by simp only [A5, List.map_map]; rfl
theorem slot_map {b : Base} {s s' : St} {g : V → V} (hg : ∀ x : D, g (.d x) = .d x) (hy : s'.y = s.y) (hT : ∀ t, s'.T.get t = g (s.T.get t)) (t : Nat) : b.slot s' t = g (b.slot s t) := by
 unfold Base.slot
 split
 · exact hT t
 ·
  rw [hy]
  split
  · exact (hg _).symm
  · exact hT t
theorem St.get_kill (s : St) (ks : List Nat) (t : Nat) : (s.kill ks).get t = k9 ks (s.T.get t) := by
 unfold St.kill
 split
 · rfl
 · exact Tr.get_map (killAll_dead _) _ _

section
variable {P : Program} {m : Md} {b : Base}

theorem B8 {r : Prop × V} [Decidable r.1] {v : V} (h : selQ r = some v) : r.1 ∧ r.2 = v := by
 unfold selQ at h
 split at h
 · cases h; exact ⟨by assumption, rfl⟩
 · cases h
theorem intQ_spec {op : BinOp} {t : TypeId} {k k' : IntKind} {a b : Int} {v : V} (h : intQ op k k' a b = some v) : (binF P op t (.d (.val (.int k a))) (.d (.val (.int k' b)))).1 ∧ (binF P op t (.d (.val (.int k a))) (.d (.val (.int k' b)))).2 = v := by
 unfold intQ at h
 split at h
 ·
  rename_i hk
  cases op <;> first | (cases h; done) | (cases h; exact ⟨hk, rfl⟩)
 · cases h
theorem str_eq (a b : ByteArray) : (a.toList == b.toList) = decide (a.data.toList = b.data.toList) := by
 rw [Go.ByteArray.toList_eq, Go.ByteArray.toList_eq, Bool.eq_iff_iff]
 simp only [beq_iff_eq, decide_eq_true_eq]
theorem binQ_spec {op : BinOp} {t : TypeId} {x y v : V} (h : binQ P op t x y = some v) : (binF P op t x y).1 ∧ (binF P op t x y).2 = v := by
 unfold binQ at h
 split at h
 ·
  split at h
  · rename_i hi; cases h; exact intQ_spec hi
  · exact B8 h
 ·
  split at h
  · cases h; exact ⟨trivial, congrArg A0 (str_eq _ _)⟩
  · cases h; exact ⟨trivial, congrArg (fun x => A0 (!x)) (str_eq _ _)⟩
  · exact B8 h
 · exact B8 h
theorem opQ_spec {s : St} {op : Op} {v : V} (h : opQ P s op = some v) {env : Env} (ho : env.objs = s.O) (he : ∀ x ∈ op.operands.toList, ev env x = s.ev x) : (opF P env op).1 ∧ (opF P env op).2 = v := by
 cases op with
 | move x => simp only [opQ, Option.some.injEq] at h; exact ⟨trivial, by rw [← h]; exact he x (by simp [Op.operands])⟩
 | assign x => simp only [opQ, Option.some.injEq] at h; exact ⟨trivial, by rw [← h]; exact he x (by simp [Op.operands])⟩
 | load t x => have := B8 h; simp only [opF, ho, he x (by simp [Op.operands])]; exact this
 | binOp op t x y yt => have := binQ_spec h; simp only [opF, he x (by simp [Op.operands]), he y (by simp [Op.operands])]; exact this
 | indexAddr t x i => have := B8 h; simp only [opF, he x (by simp [Op.operands]), he i (by simp [Op.operands])]; exact this
 | fieldAddr t x f => have := B8 h; simp only [opF, he x (by simp [Op.operands])]; exact this
 | extract x k => have := B8 h; simp only [opF, he x (by simp [Op.operands])]; exact this
 | nilCheck x => have := B8 h; simp only [opF, he x (by simp [Op.operands])]; exact this
 | field t x f => have := B8 h; simp only [opF, he x (by simp [Op.operands])]; exact this
 | pick c x y => have := B8 h; simp only [opF, he c (by simp [Op.operands]), he x (by simp [Op.operands]), he y (by simp [Op.operands])]; exact this
 | unOp op t x => have := B8 h; simp only [opF, he x (by simp [Op.operands])]; exact this
 | index t x i => have := B8 h; simp only [opF, he x (by simp [Op.operands]), he i (by simp [Op.operands])]; exact this
 | _ => cases h
theorem opQ_step {s : St} {o : Oper} {v : V} (h : opQ P s o.op = some v) (env : Env) : y8 P env o = pureF env o.dst (opF P env o.op) := by
 obtain ⟨dst, op, ty, pos, after, guard⟩ := o
 cases op <;> first | rfl | (cases h; done)
theorem opQ_pureA {s : St} {o : Oper} {v : V} (h : opQ P s o.op = some v) (env : Env) : u3 P env o = opF P env o.op := by
 obtain ⟨dst, op, ty, pos, after, guard⟩ := o
 cases op <;> first | rfl | (cases h; done)

def Same (b : Base) (nt : Nat) (s : St) (kb : Option Nat) (d : Option Nat) (r r' : Prop × Env) : Prop :=
 r.1 → r'.1 ∧ Eqv (mk b nt { s with T := putT (killT s.T kb) d (get r.2.tmps (d.getD 0)), O := r.2.objs, ks := s.ks ++ killsO s.g kb }) r'.2

theorem D5 (T : Tr) : killT T none = T := rfl
variable {nt : Nat} {s : St} {d : Option Nat} {E : Env}

theorem same_of_put (hb : Fits m b) (h : dst0 m s.y d = true) (hd : dstB nt d = true) {c : Prop} {v : V} {O : List Ob} : Same b nt s none d (c ∧ l5 E d, putO { E with objs := O } d v) (c ∧ l5 (mk b nt s) d, putO { mk b nt s with objs := O } d v) := by
 intro hc
 refine ⟨⟨hc.1, D9 hd rfl⟩, ?_⟩
 refine Eqv.trans ?_ (putO_mk (v := v) (s := { s with O := O }) hb h hd)
 simp only [D5, killsO, List.append_nil]
 cases d with
 | none => exact Eqv.refl _
 | some d => simp only [putO, Env.put, PW.get_put, if_true, Option.getD_some]; exact Eqv.refl _
theorem r4 {kb : Option Nat} {e : Env} {r : Prop × Env} : Same b nt s kb d (False, e) r := fun h => h.elim
theorem same_pure (hb : Fits m b) (h : dst0 m s.y d = true) (hd : dstB nt d = true) (hO : E.objs = s.O) {r : Prop × V} : Same b nt s none d (pureF E d r) (pureF (mk b nt s) d r) := by
 have := same_of_put (E := E) (c := r.1) (v := r.2) (O := s.O) hb h hd
 rw [show ({ E with objs := s.O } : Env) = E by rw [← hO]] at this
 exact this
theorem same_store (hO : E.objs = s.O) {t : TypeId} {p v : V} : Same b nt s none none (B7 P E none t p v) (B7 P (mk b nt s) none t p v) := by
 unfold B7
 split
 ·
  rename_i i off sz _ _ h
  simp only [show (mk b nt s).objs = s.O from rfl, hO]
  split
  ·
   intro hc
   refine ⟨hc, ?_⟩
   simp only [D5, killsO, List.append_nil, putT]
   exact ⟨rfl, rfl, rfl, rfl, fun _ => rfl⟩
  · exact r4
 · exact r4
theorem storeF_dst {env : Env} {t : TypeId} {p v : V} (h : (B7 P env d t p v).1) : d = none := by
 unfold B7 at h
 split at h
 ·
  split at h
  · exact h.1
  · exact h.elim
 · exact h.elim
theorem same_newOb (hb : Fits m b) (h : dst0 m s.y d = true) (hd : dstB nt d = true) (hO : E.objs = s.O) {c : Prop} {v : V} {ob : Ob} : Same b nt s none d (c ∧ l5 E d, newOb E ob d v) (c ∧ l5 (mk b nt s) d, newOb (mk b nt s) ob d v) := by
 have := same_of_put (E := E) (c := c) (v := v) (O := s.O ++ [ob]) hb h hd
 unfold newOb
 rw [hO]
 exact this
theorem same_newOb' (hb : Fits m b) (h : dst0 m s.y d = true) (hd : dstB nt d = true) (hO : E.objs = s.O) {v : V} {ob : Ob} : Same b nt s none d (l5 E d, newOb E ob d v) (l5 (mk b nt s) d, newOb (mk b nt s) ob d v) := fun hc => by
 have := same_newOb (c := True) (v := v) (ob := ob) hb h hd hO ⟨trivial, hc⟩
 exact ⟨this.1.2, this.2⟩
theorem same_box (hb : Fits m b) (h : dst0 m s.y d = true) (hd : dstB nt d = true) (hO : E.objs = s.O) {e : TypeId} {x : V} : Same b nt s none d (boxF E d e x) (boxF (mk b nt s) d e x) := by
 unfold boxF
 rw [show (mk b nt s).objs.length = E.objs.length by rw [hO]; rfl]
 exact same_newOb hb h hd hO
theorem same_alloc (hb : Fits m b) (h : dst0 m s.y d = true) (hd : dstB nt d = true) (hO : E.objs = s.O) {e : TypeId} : Same b nt s none d (allocF P E d e) (allocF P (mk b nt s) d e) := by
 unfold allocF
 rw [show (mk b nt s).objs.length = E.objs.length by rw [hO]; rfl]
 split
 · exact same_newOb' hb h hd hO
 · exact r4
theorem same_build (hb : Fits m b) (h : dst0 m s.y d = true) (hd : dstB nt d = true) (hO : E.objs = s.O) {t : TypeId} {n : Nat} {parts : List (Nat × V)} : Same b nt s none d (o5 P E d t n parts) (o5 P (mk b nt s) d t n parts) := by
 unfold o5
 rw [show (mk b nt s).objs.length = E.objs.length by rw [hO]; rfl]
 split
 ·
  split
  · exact same_newOb hb h hd hO
  · exact r4
 · exact r4
theorem same_make (hb : Fits m b) (h : dst0 m s.y d = true) (hd : dstB nt d = true) (hO : E.objs = s.O) {t : TypeId} {l c : V} : Same b nt s none d (C2 P E d t l c) (C2 P (mk b nt s) d t l c) := by
 unfold C2
 rw [show (mk b nt s).objs.length = E.objs.length by rw [hO]; rfl]
 split
 ·
  split
  · exact same_newOb hb h hd hO
  · exact r4
 · exact r4

theorem appEnv_le {env : Env} {i : Nat} {ob : Ob} {es : List V} (h : env.gs.1 ≤ i) : C6 env i ob es = ⟨env.nt, env.tmps.map fun x => (x.1, x.2.kill i), B6 env.objs i ob es, env.gs, env.th⟩ := by simp [C6, h]
theorem appEnv_gt {env : Env} {i : Nat} {ob : Ob} {es : List V} (h : ¬ env.gs.1 ≤ i) : C6 env i ob es = ⟨env.nt, env.tmps.map fun x => (x.1, x.2.kill i), B6 env.objs i ob es, (env.gs.1, env.gs.2.map fun x => (x.1.kill i, x.2)), env.th⟩ := by simp only [C6, h, if_false]
theorem appEnv_mk {i : Nat} {ob : Ob} {es : List V} (O : List Ob) : Eqv (mk b nt { s with T := killT s.T (some i), O := B6 O i ob es, ks := s.ks ++ killsO s.g (some i) }) (C6 { mk b nt s with objs := O } i ob es) := by
 have ht : ∀ t, get ((mk b nt s).tmps.map fun x => (x.1, x.2.kill i)) t = get (mk b nt { s with T := killT s.T (some i), O := B6 O i ob es, ks := s.ks ++ killsO s.g (some i) }).tmps t := by
  intro t
  simp only [mk, slots_map (V.kill i), s6]
  split
  · exact (slot_map (b := b) (s := s) (s' := { s with T := killT s.T (some i), O := B6 O i ob es, ks := s.ks ++ killsO s.g (some i) }) (g := V.kill i) (fun x => rfl) rfl (fun t => Tr.get_map (f := V.kill i) rfl s.T t) t).symm
  · rfl
 by_cases hg : s.g ≤ i
 ·
  rw [appEnv_le (show ({ mk b nt s with objs := O } : Env).gs.1 ≤ i from hg)]
  refine ⟨rfl, rfl, ?_, rfl, ht⟩
  simp only [mk, killsO, if_pos hg, List.append_nil]
 ·
  rw [appEnv_gt (show ¬ ({ mk b nt s with objs := O } : Env).gs.1 ≤ i from hg)]
  refine ⟨rfl, rfl, ?_, rfl, ht⟩
  simp only [mk, killsO, if_neg hg, List.map_map]
  congr 1
  refine List.map_congr_left fun x _ => ?_
  simp [killAll_app, k9]
def appB (O : List Ob) : V → Option Nat
 | .own i _ _ _ => some i
 | _ => some O.length
theorem app_key (hb : Fits m b) (h : dst0 m s.y d = true) (hd : dstB nt d = true) {i : Nat} {ob : Ob} {es : List V} {O : List Ob} {v : V} {e0 : Env} : Eqv (mk b nt { s with T := putT (killT s.T (some i)) d (get (putO (C6 { e0 with objs := O } i ob es) d v).tmps (d.getD 0)), O := (putO (C6 { e0 with objs := O } i ob es) d v).objs, ks := s.ks ++ killsO s.g (some i) }) (putO (C6 { mk b nt s with objs := O } i ob es) d v) := by
 have e1 := (appEnv_mk (b := b) (nt := nt) (s := s) (i := i) (ob := ob) (es := es) O).putO d v
 refine Eqv.trans ?_ e1
 have e2 := putO_mk (v := v) (s := { s with T := killT s.T (some i), O := B6 O i ob es, ks := s.ks ++ killsO s.g (some i) }) hb h hd
 refine Eqv.trans ?_ e2
 cases d with
 | none => exact ⟨rfl, rfl, rfl, rfl, fun _ => rfl⟩
 | some d => simp only [putO, Env.put, PW.get_put, if_true, Option.getD_some, C6]; exact Eqv.refl _
theorem same_append (hb : Fits m b) (h : dst0 m s.y d = true) (hd : dstB nt d = true) (hO : E.objs = s.O) {t t' : TypeId} {sv x : V} : Same b nt s (appB s.O sv) d (q4 P E d t t' sv x) (q4 P (mk b nt s) d t t' sv x) := by
 unfold q4
 cases hs : C4 P t with
 | none => exact r4
 | some e =>
  simp only []
  cases ht : F3 P e with
  | none => exact r4
  | some y =>
   obtain ⟨sz, bytes, z⟩ := y
   simp only []
   cases sv with
   | own i off n sz' =>
    simp only [show (mk b nt s).objs = s.O from rfl, hO]
    cases ho : s.O[i]? with
    | none => exact r4
    | some ob =>
     intro hc
     refine ⟨⟨hc.1, D9 hd rfl⟩, ?_⟩
     have k := app_key (b := b) (nt := nt) (s := s) (i := i) (ob := ob) (es := (m6 P s.O t t' sz z x).2.2) (O := s.O) (v := V.own i 0 (n + (m6 P s.O t t' sz z x).2.1) sz) (e0 := E) hb h hd
     rw [show ({ E with objs := s.O } : Env) = E by rw [← hO]] at k
     exact k
   | d y =>
    have key : Same b nt s (appB s.O (.d y)) d ((((m6 P E.objs t t' sz z x).1 ∧ (m6 P E.objs t t' sz z x).2.2.all oneV = true ∧ sz ≠ 0 ∧ (m6 P E.objs t t' sz z x).2.1 * bytes ≤ 140737488355328 ∧ (m6 P E.objs t t' sz z x).2.1 ≤ 140737488355328) ∧ l5 E d,
     putO (C6 { E with objs := E.objs ++ [⟨[], e⟩] } E.objs.length ⟨[], e⟩ (m6 P E.objs t t' sz z x).2.2) d (.own E.objs.length 0 (m6 P E.objs t t' sz z x).2.1 sz)))
     ((((m6 P (mk b nt s).objs t t' sz z x).1 ∧ (m6 P (mk b nt s).objs t t' sz z x).2.2.all oneV = true ∧ sz ≠ 0 ∧ (m6 P (mk b nt s).objs t t' sz z x).2.1 * bytes ≤ 140737488355328 ∧ (m6 P (mk b nt s).objs t t' sz z x).2.1 ≤ 140737488355328) ∧ l5 (mk b nt s) d,
     putO (C6 { mk b nt s with objs := (mk b nt s).objs ++ [⟨[], e⟩] } (mk b nt s).objs.length ⟨[], e⟩ (m6 P (mk b nt s).objs t t' sz z x).2.2) d (.own (mk b nt s).objs.length 0 (m6 P (mk b nt s).objs t t' sz z x).2.1 sz))) := by
     simp only [hO, show (mk b nt s).objs = s.O from rfl]
     intro hc
     refine ⟨⟨hc.1, D9 hd rfl⟩, ?_⟩
     exact app_key (b := b) (nt := nt) (s := s) (i := s.O.length) (ob := ⟨[], e⟩) (es := (m6 P s.O t t' sz z x).2.2) (O := s.O ++ [⟨[], e⟩]) (v := V.own s.O.length 0 (m6 P s.O t t' sz z x).2.1 sz) (e0 := E) hb h hd
    split
    · rename_i h1; cases h1
    ·
     rename_i h1
     cases h1
     exact key
    · exact r4
   | _ => exact r4
def appBs (O : List Ob) : Builtin → List V → Option Nat
 | .append, x :: _ => appB O x
 | _, _ => none
theorem same_builtin (hb : Fits m b) (h : dst0 m s.y d = true) (hd : dstB nt d = true) (hO : E.objs = s.O) {bi : Builtin} {ts : List TypeId} {xs : List V} :
  Same b nt s (appBs s.O bi xs) d (E9 P E d bi ts xs) (E9 P (mk b nt s) d bi ts xs) := by
 unfold E9
 split
 case h_6 => exact same_append hb h hd hO
 case h_8 => exact r4
 all_goals exact same_pure hb h hd hO

theorem appK_call {o : Oper} {bi : Builtin} {args : Array Operand} {ats : Array TypeId} (ho : o.op = .call ⟨.builtin bi, args, ats⟩) : appK s o = appBs s.O bi (args.toList.map s.ev) := by
 unfold appK
 rw [ho]
 cases h : args.toList with
 | nil => cases bi <;> simp only [h] <;> rfl
 | cons x xs => cases bi <;> simp only [h] <;> first | rfl | (simp only [List.map_cons, appBs, appB]; cases s.ev x <;> rfl)
theorem same_step (hb : Fits m b) {o : Oper} (hz : no0 m s.y o = true) (hs : okSl nt o = true) : Same b nt s (appK s o) o.dst (y8 P (s.mini nt o.op.operands.toList) o) (y8 P (mk b nt s) o) := by
 have h := r8 hz
 have hd := D4 hs
 have hx := no0_opd hz
 have hx2 := G7 hs
 have e1 : ∀ x, x ∈ o.op.operands.toList → ev (mk b nt s) x = ev (s.mini nt o.op.operands.toList) x := fun x hx' => (ev_mk hb (hx x hx') (hx2 x hx')).trans (ev_mini hx').symm
 have hop : opF P (mk b nt s) o.op = opF P (s.mini nt o.op.operands.toList) o.op := opF_congr e1 rfl
 have hO : (s.mini nt o.op.operands.toList).objs = s.O := rfl
 have ems : ∀ x, x ∈ o.op.operands.toList → ev (s.mini nt o.op.operands.toList) x = s.ev x := fun x hx' => ev_mini hx'
 obtain ⟨dst, op, ty, pos, after, guard⟩ := o
 generalize s.mini nt op.operands.toList = E at hop e1 hO ems
 unfold y8
 cases op with
 | store t p v =>
  dsimp only
  rw [e1 p (by simp [Op.operands]), e1 v (by simp [Op.operands])]
  intro hc
  have := storeF_dst hc
  subst this
  exact same_store hO hc
 | box e x => dsimp only; rw [e1 x (by simp [Op.operands])]; exact same_box hb h hd hO
 | alloc e => exact same_alloc hb h hd hO
 | buildSlice t n parts =>
  have e2 : (parts.toList.map fun x => (x.1, ev (mk b nt s) x.2)) = parts.toList.map fun x => (x.1, ev E x.2) := List.map_congr_left fun x hx' => by
   rw [e1 x.2 (by simp only [Op.operands, Array.toList_map, List.mem_map]; exact ⟨x, hx', rfl⟩)]
  simp only [e2]; exact same_build hb h hd hO
 | makeSlice t l c => dsimp only; rw [e1 l (by simp [Op.operands]), e1 c (by simp [Op.operands])]; exact same_make hb h hd hO
 | makeFunc fn first caps =>
  cases fn with
  | func f =>
   have e2 : caps.toList.map (ev (mk b nt s)) = caps.toList.map (ev E) := List.map_congr_left fun x hx' => e1 x (by simp only [Op.operands, Array.toList_append, List.mem_append]; exact .inr hx')
   simp only [e2]
   have := same_of_put (E := E) (c := first.toList = []) (v := .clo f (caps.toList.map (ev E))) (O := s.O) hb h hd
   rw [show ({ E with objs := s.O } : Env) = E by rw [← hO]] at this
   exact this
  | _ => exact same_pure hb h hd hO
 | build t parts =>
  have e2 : (parts.toList.map fun x => (x.1, ev (mk b nt s) x.2)) = parts.toList.map fun x => (x.1, ev E x.2) := List.map_congr_left fun x hx' => by
   rw [e1 x.2 (by simp only [Op.operands, Array.toList_map, List.mem_map]; exact ⟨x, hx', rfl⟩)]
  simp only [e2]; exact same_pure hb h hd hO
 | call c =>
  obtain ⟨callee, args, ats⟩ := c
  cases callee with
  | builtin bi =>
   have e2 : args.toList.map (ev (mk b nt s)) = args.toList.map (ev E) := List.map_congr_left fun x hx' => e1 x (by simp only [Op.operands, Call.operands, Array.toList_append, List.mem_append]; exact .inr hx')
   simp only [e2]
   have := same_builtin (E := E) (P := P) (bi := bi) (ts := ats.toList) (xs := args.toList.map (ev E)) hb h hd hO
   rw [appK_call (s := s) rfl]
   have e3 : args.toList.map s.ev = args.toList.map (ev E) := List.map_congr_left fun x hx' => (ems x (by simp only [Op.operands, Call.operands, Array.toList_append, List.mem_append]; exact .inr hx')).symm
   rw [e3]
   exact this
  | _ => exact r4
 | _ => first | (simp only [hop]; exact same_pure hb h hd hO)
end
end Go.PW

namespace Go.PW
open Go.RowKit

theorem toG_kill (ks : List Nat) (tmps : List (Nat × V)) (us : Array Value) (m : Nat) : toG (tmps.map fun x => (x.1, k9 ks x.2)) us m = (toG tmps us m).map fun x => (k9 ks x.1, x.2) := by
 simp only [toG, List.map_map]
 refine List.map_congr_left fun x _ => ?_
 simp [get_map_killAll]
def killG (ks : List Nat) (G : Gh) : Gh := G.map fun x => (k9 ks x.1, x.2)
theorem killG_toG (ks : List Nat) (tmps : List (Nat × V)) (us : Array Value) (m : Nat) (G : Gh) : killG ks (toG tmps us m ++ G) = toG (tmps.map fun x => (x.1, k9 ks x.2)) us m ++ killG ks G := by
 simp [killG, toG_kill]
def Env.behindK (env : Env) (ks : List Nat) (objs : List Ob) (th : (Nat → World → Prop) × Bool) : Env := { env with tmps := env.tmps.map fun x => (x.1, k9 ks x.2), objs, gs := (env.gs.1, killG ks env.gs.2), th }

section
variable {P : Program} {Q : Exit → Env → Prop} {env : Env}
theorem PW.rangeK {g : Operand} {ps : Array Tmp} {assign body : Code} {gf : FuncId} {caps : List V} {fn : Func} {cg : Code} {nt : Nat} (pend : Nat → Option Code)
  (hth : env.th.1 = fun _ _ => True) (hg : E0 (ev env g) = some (gf, caps)) (hf : P.funcs[gf]? = some fn) (hb : fn.body = some cg) (hres : fn.results.toList = []) (hnt : fn.ntmps = nt) (hcall : ∀ args w, (callFunc gf args).run P w = .ok (.enter gf args) w)
  (h : ∀ c : LoopCtx, c.ps = ps → c.assign = assign → c.body = body → c.pend = pend → env.nt ≤ c.ts.size →
   PW none P cg (fun e env1 => (e = .normal ∨ e = .ret) ∧ ∃ j ks, env1.th = (c.th j, false) ∧ env1.gs = (env.objs.length, killG ks (toG env.tmps c.ts env.objs.length ++ env.gs.2)) ∧
     (j = 0 → Q .normal (env.behindK ks env1.objs (fun _ _ => True, true))) ∧ (j ≠ 0 → (pend j = some .ret ∧ Q .ret (env.behindK ks env1.objs (fun _ _ => True, true))) ∨ ∃ id, pend j = some (.exit id) ∧ Q (.exit id) (env.behindK ks env1.objs (fun _ _ => True, true))))
    ⟨nt, ((V.d (.val (.func (.yield c.L) #[] #[])) :: caps).zipIdx.map fun x => (x.2, x.1)), env.objs, (env.objs.length, toG env.tmps c.ts env.objs.length ++ env.gs.2), (c.th 0, false)⟩) :
  PW none P (.rangeFunc g ps assign body) Q env := by
 intro B w0 S0 φ a w hr
 refine wpIn_rangeFunc ?_
 intro fnid _
 have hev := hr.ev g
 obtain ⟨cs, hcs, hrepc⟩ : ∃ cs : List Value, a.eval g = .func (.func gf) #[] cs.toArray ∧ RepVs w (Imm B S0 φ env.objs.length) φ env.objs.length caps cs := by
  unfold E0 at hg
  split at hg
  ·
   rename_i f' caps' hv
   simp only [Option.some.injEq, Prod.mk.injEq] at hg
   obtain ⟨rfl, rfl⟩ := hg
   rw [hv] at hev
   simpa only [RepV] using hev
  ·
   rename_i f' cs' hv
   simp only [Option.some.injEq, Prod.mk.injEq] at hg
   obtain ⟨rfl, rfl⟩ := hg
   rw [hv] at hev
   simp only [RepV, RepD] at hev
   obtain ⟨vs, h1, h2⟩ := hev
   exact ⟨vs, h1, h2.repVs⟩
  · cases hg
 obtain ⟨c, hc⟩ : ∃ c : LoopCtx, c = ⟨w, w.heap.size + 1, w.heap.size, fnid, a.tmps, ps, assign, body, pend⟩ := ⟨_, rfl⟩
 obtain ⟨W1, hW1⟩ : ∃ W1, (w.alloc (.deferred (some []))).alloc (.loop (c.recd 0)) = W1 := ⟨_, rfl⟩
 have hcL : c.L = w.heap.size + 1 := by rw [hc]
 have hcD : c.D = w.heap.size := by rw [hc]
 have hct : c.ts = a.tmps := by rw [hc]
 have hcw : c.w = w := by rw [hc]
 have hL1 : W1.heap[c.L]? = some (.loop (c.recd 0)) := by
  rw [← hW1, hcL]; have := World.alloc_heap_new (w.alloc (.deferred (some []))) (.loop (c.recd 0)); rwa [World.size_alloc] at this
 have hK1 : W1.heap[c.D]? = some (.deferred (some [])) := by
  rw [← hW1, hcD]; exact (Below.heap_alloc _ _ _ (by simp)).trans (World.alloc_heap_new w _)
 have hgr : Grows w W1 := by rw [← hW1]; exact (Grows.alloc w _).trans (Grows.alloc _ _)
 have hr1 := hr.grow0 hgr
 have ht1 := hgr.turns0 hr
 have hBD : B ≤ c.D := by rw [hcD]; exact hr.baseW
 have hBL : B ≤ c.L := by rw [hcL]; have := hr.baseW; omega
 refine ⟨c.L, [mark c.D], W1, { target := .fn (.func gf) cs.toArray, args := #[.func (.yield c.L) #[] #[]] }, W1, gf, #[.func (.yield c.L) #[] #[]] ++ cs.toArray, W1, ?_, ?_, ?_, ?_, fun _ => Nat.le_refl _, ?_⟩
 · rw [← hW1, hc]; exact run_enterLoop_outer _ _ _ _ _
 ·
  simp only [resolve, hcs]
  simp [go_sem]
 · intro f' _; trivial
 · simp [invoke, go_sem, hcall]
 ·
  refine (F9 (n := 0)).2 ((F9 (ro := none) (n := 1)).1 (callsIn_of_wp hf hb trivial ?_ rfl))
  have hargs : #[Value.func (.yield c.L) #[] #[]] ++ cs.toArray = (Value.func (.yield c.L) #[] #[] :: cs).toArray := by simp
  rw [hargs]
  have hl := RepVs.length _ _ hrepc
  have hus : RepVs W1 (Imm B S0 φ env.objs.length) φ env.objs.length (V.d (.val (.func (.yield c.L) #[] #[])) :: caps) (Value.func (.yield c.L) #[] #[] :: cs) := by
   simp only [RepVs]
   exact ⟨_, _, rfl, by simp [RepV, RepD], RepVs.mono ht1 _ _ hrepc⟩
  have hrel : Rel B w0 S0 φ ⟨nt, ((V.d (.val (.func (.yield c.L) #[] #[])) :: caps).zipIdx.map fun x => (x.2, x.1)), env.objs, (env.objs.length, toG env.tmps c.ts env.objs.length ++ env.gs.2), (c.th 0, false)⟩
    { tmps := (Value.func (.yield c.L) #[] #[] :: cs).toArray ++ Array.replicate (fn.ntmps - (Value.func (.yield c.L) #[] #[] :: cs).toArray.size) undef, defers := [] } W1 := by
   refine ⟨hr1.below, hr1.base, ⟨fun _ => rfl, ⟨[], rfl, List.nodup_nil, fun D hD => by simp at hD⟩, ⟨hL1, hBL, hK1, by rw [hcL, hcD]; omega, by rw [hcL, hcw]; omega, by rw [hcw]; exact hgr.others⟩, c.th_keeps 0 B⟩, ?_, ?_, hr1.objs, hr1.low, hr1.inj, Nat.le_refl _, fun x hx => ?_⟩
   · simp; omega
   ·
    intro t
    simp only [get_pairs, Nat.zero_le, if_true, Nat.sub_zero]
    by_cases ht : t < (V.d (.val (.func (.yield c.L) #[] #[])) :: caps).length
    ·
     obtain ⟨v, hv, hrep⟩ := RepVs.get _ _ hus t ht
     have e1 : ((Value.func (.yield c.L) #[] #[] :: cs).toArray ++ Array.replicate (fn.ntmps - (Value.func (.yield c.L) #[] #[] :: cs).toArray.size) undef).getD t undef = v := by
      have ht' : t < (Value.func (.yield c.L) #[] #[] :: cs).length := (List.getElem?_eq_some_iff.1 hv).1
      rw [Array.getD_eq_getD_getElem?, Array.getElem?_append_left (by simpa using ht')]
      simpa using congrArg (fun o => o.getD undef) hv
     rw [e1]; exact hrep
    ·
     rw [show (V.d (.val (.func (.yield c.L) #[] #[])) :: caps).getD t .dead = .dead by rw [List.getD_eq_getElem?_getD, List.getElem?_eq_none (Nat.le_of_not_lt ht)]; rfl]
     simp [RepV]
   ·
    rcases List.mem_append.1 hx with hx | hx
    · rw [hct] at hx; exact toG_rep hr1 x hx
    · exact ⟨Nat.le_trans (hr1.ghost.2 x hx).1 hr1.ghost.1, (hr1.ghost.2 x hx).2⟩
  refine wpIn_mono (h c (by rw [hc]) (by rw [hc]) (by rw [hc]) (by rw [hc]) (by rw [hct]; exact hr.size) B w0 S0 φ _ W1 hrel) ?_
  rintro e a1 W2 ⟨env1, φ1, ⟨he, j, ks, hth1, hgs, hQ0, hQ1⟩, hr2⟩
  rw [killG_toG] at hgs
  have hm := hr2.nodef
  rw [hth1] at hm
  have hd : a1.defers = [] := hm.1 rfl
  obtain ⟨hL2, _, hD2, hDL, hLw, hkw⟩ := hm.2.2.1
  rw [hcw] at hLw hkw
  have hres' : (results fn a1.tmps).run P W2 = .ok (.tuple #[]) W2 := by
   have : fn.results = #[] := Array.toList_inj.1 (by simpa using hres)
   simp [results, this]
  -- the caller's state again
  have hback : ∀ o', Rel B w0 S0 φ1 (env.behindK ks env1.objs (fun _ _ => True, true)) { a with defers := mark c.D :: a.defers } (W2.putObj c.L o') := by
   intro o'
   have h3 := hr2.turnL o' hL2 hBL (p' := fun _ _ => True) trivial (fun _ _ _ _ => trivial)
   refine ⟨h3.below, h3.base, ⟨fun e => by simp [Env.behindK] at e, ?_, trivial, fun _ _ _ _ => trivial⟩, hr.size, fun t => ?_, h3.objs, h3.low, h3.inj, ?_, fun x hx => ?_⟩
   ·
    obtain ⟨_, ⟨Ds, g1, g2, g3⟩, _, _⟩ := hr.nodef
    refine ⟨c.D :: Ds, by simp [g1], List.nodup_cons.2 ⟨fun hD => ?_, g2⟩, fun D hD => ?_⟩
    · have := heap_lt (g3 _ hD).2; rw [hcD] at this; omega
    ·
     rcases List.mem_cons.1 hD with rfl | hD
     · exact ⟨hBD, (World.putObj_heap_other hDL).trans hD2⟩
     ·
      have h5 := g3 D hD
      refine ⟨h5.1, (World.putObj_heap_other ?_).trans (hkw.same _ _ h5.2 rfl)⟩
      have := heap_lt h5.2; omega
   ·
    have := slotsBack h3 (tmps := env.tmps.map fun x => (x.1, k9 ks x.2)) (us := c.ts) (m := env.objs.length) (G := killG ks env.gs.2) (by simp only [hgs]) t
    rw [hct] at this
    exact this
   ·
    have h5 := h3.ghost.1
    simp only [hgs] at h5
    exact Nat.le_trans hr.ghost.1 h5
   ·
    have h6 := (h3.ghost.2 x (by simp only [hgs]; exact List.mem_append_right _ hx)).2
    obtain ⟨y, hy, rfl⟩ := List.mem_map.1 hx
    exact ⟨(hr.ghost.2 y hy).1, h6⟩
  have hfin : rangePost (Fd none) 1 P c.L (Sat B w0 S0 Q) { a with defers := [mark c.D] ++ a.defers } (.returned (.tuple #[])) W2 := by
   refine ⟨(c.recd j).pending, _, run_endLoop hL2 (by simp only [LoopCtx.recd]; split <;> simp), ?_⟩
   by_cases hj : j = 0
   ·
    subst hj
    simp only [LoopCtx.recd, if_true]
    exact ⟨_, φ1, hQ0 rfl, hback _⟩
   ·
    simp only [LoopCtx.recd, if_neg hj]
    have hcp : c.pend = pend := by rw [hc]
    rw [hcp]
    rcases hQ1 hj with ⟨h1, h2⟩ | ⟨id, h1, h2⟩
    · rw [h1]; exact wpIn_ret ⟨_, φ1, h2, hback _⟩
    · rw [h1]; exact wpIn_exit ⟨_, φ1, h2, hback _⟩
  rcases he with rfl | rfl <;> exact ⟨hd, _, hres', hfin⟩

theorem OW.yieldK {all rest : List Oper} {K : Env → Prop} {o : Oper} {fo : Operand} {xs : Array Operand} {ts : Array TypeId} (c : LoopCtx) (ntc : Nat) (ct : List (Nat × V)) (m0 : Nat) (G0 : Gh)
  (ho : o.op = .call { callee := .value fo, args := xs, argTypes := ts }) (hg : o.guard = none) (hf : ev env fo = .d (.val (.func (.yield c.L) #[] #[]))) (hth : env.th = (c.th 0, false)) (hnt : ntc ≤ c.ts.size) (hps : xs.size = c.ps.size) (hpl : ∀ p ∈ c.ps.toList, p < ntc)
  (hgs : env.gs.2 = toG ct c.ts m0 ++ G0) (hd : l5 env o.dst)
  (h : ∀ us : Array Value, PW (some c.L) P c.assign (fun e env1 => e = .normal ∧ env1.th = (c.th 0, false) ∧
    PW (some c.L) P c.body (fun e env2 => ∃ j ks, jumps c.pend e j ∧ env2.th = (c.busy, false) ∧ env2.gs = (env.objs.length, killG ks (toG env.tmps us env.objs.length ++ env.gs.2)) ∧
      OW none P all rest (putO (env.behindK ks env2.objs (c.th j, false)) o.dst (A0 (j == 0))) K) { env1 with th := (c.busy, false) })
    ⟨ntc, putAll ct (c.ps.toList.zip (xs.toList.map (ev env))), env.objs, (env.objs.length, toG env.tmps us env.objs.length ++ env.gs.2), (c.th 0, false)⟩) :
  OW none P all (o :: rest) env K := by
 intro B w0 S0 φ a w Q hr hK
 have hm := hr.nodef
 rw [hth] at hm
 obtain ⟨hL, hbase⟩ := hm.2.2.1
 have hBL := hbase.1
 have hev := hr.ev fo
 rw [hf] at hev
 simp only [RepV, RepD] at hev
 have hevs := hr.evs xs.toList
 have hsz : (xs.map a.eval).size = (c.recd 0).params.size := by simpa [LoopCtx.recd] using hps
 have hex : (execOp a.eval o).run P w = .ok (.round c.L c.fn ((c.ps.zip (xs.map a.eval)).foldl (fun tmps (t, a) => tmps.setIfInBounds t a) c.ts) c.assign c.body) w := by
  have := run_yield (P := P) hL hsz
  simp only [LoopCtx.recd] at this
  simp [execOp, ho, resolve, Deferred.ofValue, hev, invoke, this]
 have hnd : ∀ c', o.op ≠ .defer c' := by rw [ho]; intro c' e; cases e
 unfold wpListIn
 rw [if_pos (k7 hg _)]
 refine ⟨fun _ _ => trivial, ?_⟩
 rw [Oper.semAt_eq _ _ _ hnd, hex, Oper.uponIn_round]
 refine ⟨fun _ => Nat.le_refl _, ?_⟩
 refine (roundIn_of_wpIn (F := Fd none) (R := fun e w'' => ∃ b, e = .returned (.bool b) ∧ wpListIn (Fd none) 1 P all.toArray Q rest (a.put o.dst (.bool b)) w'') trivial ?_).mono ?_
 ·
  have hfold : (c.ps.zip (xs.map a.eval)).foldl (fun tmps (t, a) => tmps.setIfInBounds t a) c.ts = (c.ps.toList.zip (xs.toList.map a.eval)).foldl (fun t x => t.setIfInBounds x.1 x.2) c.ts := by
   rw [← Array.foldl_toList, Array.toList_zip, Array.toList_map]
  rw [hfold]
  have hdl : a.defers = [] := hm.1 rfl
  have hr0 : Rel B w0 S0 φ ⟨ntc, ct, env.objs, (env.objs.length, toG env.tmps a.tmps env.objs.length ++ env.gs.2), (c.th 0, false)⟩ { tmps := c.ts, defers := [] } w := by
   refine ⟨hr.below, hr.base, ⟨fun _ => rfl, ⟨[], rfl, List.nodup_nil, fun D hD => by simp at hD⟩, hm.2.2⟩, hnt, fun t => slotsBack hr hgs t, hr.objs, hr.low, hr.inj, Nat.le_refl _, fun x hx => ?_⟩
   rcases List.mem_append.1 hx with hx | hx
   · exact toG_rep hr x hx
   · exact ⟨Nat.le_trans (hr.ghost.2 x hx).1 hr.ghost.1, (hr.ghost.2 x hx).2⟩
  have hr1 := Rel.puts c.ps.toList (xs.toList.map (PW.ev env)) (xs.toList.map a.eval) _ c.ts (by simpa using hps.symm) hr0 hpl hevs
  refine wpIn_mono (wpIn_any (ro := some c.L) (h a.tmps B w0 S0 φ _ w hr1)) ?_
  rintro e a1 w1 ⟨env1, φ1, ⟨rfl, hth1, hbody⟩, hr1'⟩
  have hm1 := hr1'.nodef
  rw [hth1] at hm1
  obtain ⟨hL1, hb1⟩ := hm1.2.2.1
  refine ⟨_, run_beginRound hL1 (by simp [LoopCtx.recd]), ?_⟩
  have hr2 := hr1'.turnL (.loop { c.recd 0 with state := .busy }) hL1 hBL (p' := c.busy) ⟨World.putObj_heap_same (heap_lt hL1), c.base_put hb1 _⟩ (c.busy_keeps B)
  rw [show env1.th.2 = false by rw [hth1]] at hr2
  refine wpIn_mono (wpIn_any (ro := some c.L) (hbody B w0 S0 φ1 a1 _ hr2)) ?_
  rintro e a2 w3 ⟨env2, φ2, ⟨j, ks, hj, hth2, hgs2, hOW⟩, hr3⟩
  rw [killG_toG] at hgs2
  have hm3 := hr3.nodef
  rw [hth2] at hm3
  obtain ⟨hL3, hb3⟩ := hm3.2.2.1
  have fin : ∀ (jump : Option Code) (hjp : c.recd j = { { c.recd 0 with state := .busy } with state := if jump.isNone then .ready else .done, pending := jump }) (hjb : jump.isNone = (j == 0)),
    ∃ v w', (Instr.endRound c.L jump).run P w3 = .ok v w' ∧ ∃ b, Ending.returned v = .returned (.bool b) ∧ wpListIn (Fd none) 1 P all.toArray Q rest (a.put o.dst (.bool b)) w' := by
   intro jump hjp hjb
   refine ⟨_, _, run_endRound jump hL3, _, rfl, ?_⟩
   rw [← hjp, hjb]
   have hr4 := hr3.turnL (.loop (c.recd j)) hL3 hBL (p' := c.th j) ⟨World.putObj_heap_same (heap_lt hL3), c.base_put hb3 _⟩ (c.th_keeps j B)
   have hr5 : Rel B w0 S0 φ2 (env.behindK ks env2.objs (c.th j, false)) a (w3.putObj c.L (.loop (c.recd j))) := by
    refine ⟨hr4.below, hr4.base, ⟨fun _ => hdl, ⟨[], by simpa using hdl, List.nodup_nil, fun D hD => by simp at hD⟩, hr4.nodef.2.2⟩, hr.size, fun t => ?_, hr4.objs, hr4.low, hr4.inj, ?_, fun x hx => ?_⟩
    · exact slotsBack hr4 (tmps := env.tmps.map fun x => (x.1, k9 ks x.2)) (us := a.tmps) (m := env.objs.length) (G := killG ks env.gs.2) (by simp only [hgs2]) t
    ·
     have h5 := hr4.ghost.1
     simp only [hgs2] at h5
     exact Nat.le_trans hr.ghost.1 h5
    ·
     have h6 := (hr4.ghost.2 x (by simp only [hgs2]; exact List.mem_append_right _ hx)).2
     obtain ⟨y, hy, rfl⟩ := List.mem_map.1 hx
     exact ⟨(hr.ghost.2 y hy).1, h6⟩
   refine hOW B w0 S0 φ2 _ _ Q (hr5.putO o.dst ?_ _ _ ?_) hK
   ·
    cases hdd : o.dst with
    | none => trivial
    | some d => rw [hdd] at hd; exact hd
   · simp [A0, RepV, RepD]
  rcases hj with ⟨rfl, rfl⟩ | ⟨hj0, ⟨rfl, hp⟩ | ⟨id, rfl, hp⟩⟩
  · exact fin none (by simp [LoopCtx.recd]) rfl
  · exact fin (some .ret) (by simp [LoopCtx.recd, hj0, hp]) (by simp [hj0])
  · exact fin (some (.exit id)) (by simp [LoopCtx.recd, hj0, hp]) (by simp [hj0])
 ·
  rintro e w'' ⟨b, rfl, hb⟩
  exact hb
end
end Go.PW

namespace Go.PW
open Go.RowKit

def CallF (P : Program) (f : FuncId) (ds : List D) (x : D) : Prop :=
 (∀ args w, (callFunc f args).run P w = .ok (.enter f args) w) ∧
 ∀ (w : World) (S : Nat → Prop) (vs : List Value), GI w.heap.size w S → RepAll w S ds vs → Calls P f vs.toArray w fun e w' => ∃ v, e = .returned v ∧ Below w.heap.size w w' ∧ RepD w' (fun b => w.heap.size ≤ b) x v

theorem CallF.sound {P : Program} {f : FuncId} {vs : List V} {x : D} {k : Nat} {B : Nat} {w0 : World} {S0 : Nat → Prop} {φ : Nat → Option Nat} {env : Env} {a : Act} {w : World} (hc : CallF P f (vs.map (toD env.objs k)) x) (hok : ∀ v ∈ vs, okD env.objs k v)
  (h : Rel B w0 S0 φ env a w) {us : List Value} (hu : RepVs w (Imm B S0 φ env.objs.length) φ env.objs.length vs us) :
  Calls P f us.toArray w fun e w' => ∃ v, e = .returned v ∧ Grows w w' ∧ RepV w' (Imm B S0 φ env.objs.length) φ env.objs.length (.d x) v := by
 have hrep : RepAll w (fun _ => True) (vs.map (toD env.objs k)) us :=
  l8 _ _ _ hu fun v hv u hvu => toD_rep h (fun _ _ => trivial) (fun _ _ _ _ => trivial) k v u hvu (hok v hv)
 refine (hc.2 w _ us h.glob.any hrep).mono ?_
 rintro e w' ⟨v, rfl, hb, hr⟩
 refine ⟨v, rfl, ⟨hb⟩, ?_⟩
 simp only [RepV]
 refine RepD.mono (fun b o y hb hy => ⟨hy, .inr (Nat.le_trans h.baseW hb), fun i hi e => ?_⟩) x v hr
 have := h.live_lt hi e; omega

def Snd (P : Program) : Task → Out → Prop
 | .code m nt c s, .code e s' => s'.g = s.g ∧ ∀ b Q, Fits m b → Q e (mk b nt s') → PW b.ro P c Q (mk b nt s)
 | .call f ds, .call r obs fr => CallOK P f ds r obs ∧ (fr = true → ∃ x, r = .d x ∧ obs = [] ∧ CallF P f ds x)
 | .callM f args O, .callM r O' ks => CallM P f args O r O' ks
 | _, _ => True

theorem put_slots {nt d : Nat} {f : Nat → V} {v : V} (h : d < nt) : put (A5 nt f) d v = A5 nt fun t => if t = d then v else f t := by
 have key : ∀ (n a : Nat), a ≤ d → d < a + n → put ((List.range' a n).map fun t => (t, f t)) d v = (List.range' a n).map fun t => (t, if t = d then v else f t) := by
  intro n
  induction n with
  | zero => intro a h1 h2; omega
  | succ n ih =>
   intro a h1 h2
   rw [List.range'_succ]
   simp only [List.map_cons, put]
   by_cases h3 : d = a
   ·
    subst h3
    rw [if_pos rfl, if_pos rfl]
    congr 1
    refine List.map_congr_left fun t ht => ?_
    have := (List.mem_range'_1.1 ht).1
    rw [if_neg (by omega)]
   · rw [if_neg h3, if_neg (show ¬ d < a by omega), if_neg (show ¬ a = d by omega), ih (a + 1) (by omega) (by omega)]
 have := key nt 0 (by omega) (by omega)
 rw [← List.range_eq_range'] at this
 exact this
theorem n8 {m : Md} {b : Base} (hb : Fits m b) {nt : Nat} {s : St} {d : Option Nat} {v : V} (h : dst0 m s.y d = true) (hd : dstB nt d = true) : mk b nt { s with T := putT s.T d v } = putO (mk b nt s) d v := by
 cases d with
 | none => rfl
 | some d =>
  obtain ⟨h1, h2⟩ := dstB_t hd
  simp only [mk, putO, Env.put, put_slots h1, putT]
  congr 1
  congr 1
  funext t
  by_cases ht : t = d
  ·
   subst ht
   rw [if_pos rfl]
   exact (slot_out (s := { s with T := s.T.put t v }) (dst0_t hb h)).trans ((Tr.get_put h2).trans (if_pos rfl))
  ·
   rw [if_neg ht]
   unfold Base.slot
   simp only [Tr.get_put h2, if_neg ht]
theorem putAll_slots {nt : Nat} : ∀ (l : List (Nat × V)) (T : Tr), (∀ x ∈ l, x.1 < nt ∧ x.1 < 1000) → putAll (A5 nt T.get) l = A5 nt (T.puts l).get
 | [], T, _ => rfl
 | (t, v) :: l, T, h => by
  have ht := h (t, v) (by simp)
  simp only [putAll, Tr.puts]
  rw [put_slots ht.1, ← putAll_slots l _ fun x hx => h x (by simp [hx])]
  congr 2
  funext u
  rw [Tr.get_put ht.2]
theorem ev_both {m : Md} {b : Base} (hb : Fits m b) {nt : Nat} {s : St} {xs : List Operand} (hop : ∀ x ∈ xs, no0x m s.y x = true) (hsl : ∀ x ∈ xs, slB nt x = true) {x : Operand} (hx : x ∈ xs) : ev (mk b nt s) x = ev (s.mini nt xs) x :=
 (ev_mk hb (hop x hx) (hsl x hx)).trans (ev_mini hx).symm
theorem kill_mk {b : Base} {nt : Nat} {s : St} (ks : List Nat) (O : List Ob) (j : Nat) (q : Bool) {th : (Nat → World → Prop) × Bool} (hth : th = b.th j q) : (mk b nt s).behindK ks O th = mk b nt { T := s.kill ks, O := O, ks := s.ks ++ ks, j := j, q := q, g := s.g, y := s.y } := by
 simp only [Env.behindK, mk, slots_map (k9 ks), killG, List.map_map, hth]
 congr 1
 ·
  congr 1
  funext t
  exact (slot_map (b := b) (s := s) (s' := { T := s.kill ks, O := O, ks := s.ks ++ ks, j := j, q := q, g := s.g, y := s.y }) (g := k9 ks) (killAll_d ks) rfl (fun t => St.get_kill s ks t) t).symm
 ·
  congr 1
  refine List.map_congr_left fun x _ => ?_
  simp [killAll_app]

section
variable {ro : Option Nat} {P : Program} {all rest : List Oper} {env : Env} {K : Env → Prop} {o : Oper}

theorem OW.ung (hw : ∀ B w0 S0 φ a w, Rel B w0 S0 φ env a w → Region.wanted o (yielded all.toArray a.tmps) = true) (h : OW ro P all ({ o with guard := none } :: rest) env K) : OW ro P all (o :: rest) env K := by
 intro B w0 S0 φ a w Q hr hK
 have h1 := h B w0 S0 φ a w Q hr hK
 unfold wpListIn at h1 ⊢
 rw [if_pos (hw B w0 S0 φ a w hr)]
 rw [if_pos (k7 rfl _)] at h1
 exact h1

theorem OW.skipG (hw : ∀ B w0 S0 φ a w, Rel B w0 S0 φ env a w → Region.wanted o (yielded all.toArray a.tmps) = false) (hd : l5 env o.dst) (h : OW ro P all rest (putO env o.dst gF) K) : OW ro P all (o :: rest) env K := by
 intro B w0 S0 φ a w Q hr hK
 unfold wpListIn
 rw [hw B w0 S0 φ a w hr, if_neg (by simp)]
 refine ⟨fun _ _ => trivial, h B w0 S0 φ _ _ Q (hr.putO o.dst hd gF undef ?_) hK⟩
 simp [gF, RepV]

variable {m : Md} {b : Base} {nt : Nat} {s s' : St}

theorem guardX_C (hb : Fits m b) {g : Bool} (h : guardX m nt all s o = some g) : ∀ j want, o.guard = some (j, want) → u7 (all.map (·.dst)) (mk b nt s).tmps (some (j, want)) = some g := by
 intro j want hg
 simp only [guardX, hg] at h
 simp only [u7]
 cases hd : (all.map (·.dst)).getD j none with
 | none => rw [hd] at h; cases h
 | some d =>
  simp only [hd] at h ⊢
  cases hc : (dst0 m s.y (some d) && Nat.blt d nt) with
  | false => simp only [hc] at h; cases h
  | true =>
   simp only [hc] at h
   simp only [Bool.and_eq_true, Nat.blt_eq] at hc
   have e : get (mk b nt s).tmps d = s.T.get d := by
    simp only [mk]; rw [s6, if_pos hc.2]; exact slot_out (dst0_t hb hc.1)
   rw [e]
   generalize s.T.get d = v at h ⊢
   split at h <;> first | exact h | cases h

theorem guardX_w (hb : Fits m b) {g : Bool} (h : guardX m nt all s o = some g) : ∀ B w0 S0 φ a w, Rel B w0 S0 φ (mk b nt s) a w → Region.wanted o (yielded all.toArray a.tmps) = g := by
 intro B w0 S0 φ a w hr
 cases hg : o.guard with
 | none =>
  simp only [guardX, hg, Option.some.injEq] at h
  rw [← h]; exact k7 hg _
 | some gd =>
  obtain ⟨j, want⟩ := gd
  exact o9 hr hg (guardX_C hb h j want hg)

theorem okB_ok {objs : List Ob} : ∀ (k : Nat) (v : V), okB objs k v = true → okD objs k v := by
 intro k
 induction k with
 | zero => intro v h; cases v <;> simp_all [okB, okD]
 | succ k ih =>
  intro v h
  cases v with
  | own i off n sz => simp only [okB, Bool.and_eq_true, decide_eq_true_eq, List.all_eq_true] at h; simp only [okD]; exact ⟨h.1.2, fun v hv => ih v (h.2 v hv)⟩
  | ptr i off => simp only [okB, Bool.and_eq_true, List.all_eq_true] at h; simp only [okD]; exact fun v hv => ih v (h.2 v hv)
  | clo f caps => simp only [okB, List.all_eq_true] at h; simp only [okD]; exact fun v hv => ih v (h v hv)
  | agg vs => simp only [okB, List.all_eq_true] at h; simp only [okD]; exact fun v hv => ih v (h v hv)
  | tup vs => simp only [okB, List.all_eq_true] at h; simp only [okD]; exact fun v hv => ih v (h v hv)
  | d x => simp only [okD]
  | _ => simp [okB] at h

theorem valCall_spec {fo : Operand} {xs : List Operand} (h : valCall o = some (fo, xs)) : ∃ xa ts, o.op = .call { callee := .value fo, args := xa, argTypes := ts } ∧ xa.toList = xs := by
 unfold valCall at h
 split at h
 ·
  rename_i fo' xa ts ho
  cases h
  exact ⟨xa, ts, ho, rfl⟩
 · cases h

theorem OW.cmpNil {op : BinOp} {t yt e : TypeId} {x y : Operand} {z : Bool} (ho : o.op = .binOp op t x y yt) (hop : op = .eql ∨ op = .neq) (hg : o.guard = none) (hs : C4 P t = some e)
  (hx : ∀ (w : World) (S : Nat → Prop) (φ : Nat → Option Nat) (m : Nat) (v : Value), RepV w S φ m (ev env x) v → ∃ ad n cap, v = .slice ad n cap ∧ ad.isNone = z) (hy : ev env y = .d (.val (.slice none 0 0))) (hd : l5 env o.dst)
  (h : OW ro P all rest (putO env o.dst (.d (.val (.bool (match op with | .neq => !z | _ => z))))) K) : OW ro P all (o :: rest) env K := by
 intro B w0 S0 φ a w Q hr hK
 have hyv := hr.ev y
 rw [hy] at hyv
 simp only [RepV, RepD] at hyv
 obtain ⟨ad, n, cap, hxv, hz⟩ := hx _ _ _ _ _ (hr.ev x)
 subst hz
 unfold wpListIn
 rw [if_pos (k7 hg _)]
 have hu := selOf_slice hs
 rcases hop with rfl | rfl
 ·
  have hgd : (eqGuard .eql t x y (.slice ad n cap) (.slice none 0 0)).run P w = .ok () w := by unfold eqGuard; split <;> simp
  have hb : (binOp .eql t (.slice ad n cap) (.slice none 0 0)).run P w = .ok (.bool ad.isNone) w := by
   simp only [binOp, Sem.run_bind, G5 w ad n cap hu, Result.andThen_ok, Sem.run_pure]
  have hex : (execOp a.eval o).run P w = .ok (.value (.bool ad.isNone)) w := by
   simp only [execOp, ho, hxv, hyv, Sem.run_bind, hgd, hb, Result.andThen_ok, Sem.run_pure]
  exact B3 hex (h B w0 S0 φ _ w Q (hr.putO o.dst hd _ _ (by simp [RepV, RepD])) hK)
 ·
  have hgd : (eqGuard .neq t x y (.slice ad n cap) (.slice none 0 0)).run P w = .ok () w := by unfold eqGuard; split <;> simp
  have hb : (binOp .neq t (.slice ad n cap) (.slice none 0 0)).run P w = .ok (.bool (!ad.isNone)) w := by
   simp only [binOp, Sem.run_bind, G5 w ad n cap hu, Result.andThen_ok, Sem.run_pure]
  have hex : (execOp a.eval o).run P w = .ok (.value (.bool (!ad.isNone))) w := by
   simp only [execOp, ho, hxv, hyv, Sem.run_bind, hgd, hb, Result.andThen_ok, Sem.run_pure]
  exact B3 hex (h B w0 S0 φ _ w Q (hr.putO o.dst hd _ _ (by simp [RepV, RepD])) hK)
theorem rep_list1 {w : World} {S : Nat → Prop} {φ : Nat → Option Nat} {m n : Nat} {c : D} {cells : List D} {v : Value} (h : RepV w S φ m (.d (.list n (c :: cells))) v) : ∃ ad n cap, v = .slice ad n cap ∧ ad.isNone = false := by
 simp only [RepV, RepD] at h
 obtain ⟨ad, cap, hxv, _, hc⟩ := h
 obtain ⟨bb, oo, rfl, _⟩ := hc.resolve_left (by simp)
 exact ⟨_, _, _, hxv, rfl⟩
theorem rep_own1 {w : World} {S : Nat → Prop} {φ : Nat → Option Nat} {m i off n sz : Nat} {v : Value} (h : RepV w S φ m (.own i off (n + 1) sz) v) : ∃ ad n cap, v = .slice ad n cap ∧ ad.isNone = false := by
 simp only [RepV] at h
 obtain ⟨_, ⟨_, _, h0, _⟩ | ⟨g, cap, cur, e, _, hv, _⟩⟩ := h
 · omega
 · exact ⟨_, _, _, hv, rfl⟩
theorem rep_nil1 {w : World} {S : Nat → Prop} {φ : Nat → Option Nat} {m : Nat} {v : Value} (h : RepV w S φ m (.d (.val (.slice none 0 0))) v) : ∃ ad n cap, v = .slice ad n cap ∧ ad.isNone = true := by
 simp only [RepV, RepD] at h
 exact ⟨_, _, _, h, rfl⟩

theorem extra_sound (hb : Fits m b) (hg : o.guard = none) (hz : no0 m s.y o = true) {x : D} (hs : okSl nt o = true) (h : extraX P (s.mini nt o.op.operands.toList) o = some x) (hK : OW b.ro P all rest (mk b nt { s with T := putT s.T o.dst (.d x) }) K) : OW b.ro P all (o :: rest) (mk b nt s) K := by
 have hop : ∀ x, x ∈ o.op.operands.toList → ev (mk b nt s) x = ev (s.mini nt o.op.operands.toList) x := fun x hx => ev_both hb (no0_opd hz) (G7 hs) hx
 have hd := D4 hs
 have hd' : l5 (mk b nt s) o.dst := D9 hd rfl
 have hK := (n8 (v := V.d x) hb (r8 hz) hd) ▸ hK
 unfold extraX at h
 split at h
 ·
  rename_i src dst y ho
  have hy : ev (mk b nt s) y = ev (s.mini nt o.op.operands.toList) y := hop y (by rw [ho]; simp [Op.operands])
  split at h
  ·
   rename_i sb u e hev hu he
   split at h
   ·
    rename_i hu8
    cases h
    exact OW.bytes ho hg hu (selOf_slice he) hu8 (hy.trans hev) hd' hK
   · cases h
  · cases h
 ·
  rename_i op t y z yt ho
  have hy : ev (mk b nt s) y = ev (s.mini nt o.op.operands.toList) y := hop y (by rw [ho]; simp [Op.operands])
  have hz' : ev (mk b nt s) z = ev (s.mini nt o.op.operands.toList) z := hop z (by rw [ho]; simp [Op.operands])
  split at h
  ·
   rename_i hy1 hz1 hs1
   cases h
   exact OW.cmpNil (z := false) ho (.inl rfl) hg hs1 (by rw [hy, hy1]; exact fun _ _ _ _ _ h => rep_list1 h) (hz'.trans hz1) hd' hK
  ·
   rename_i hy1 hz1 hs1
   cases h
   exact OW.cmpNil (z := false) ho (.inr rfl) hg hs1 (by rw [hy, hy1]; exact fun _ _ _ _ _ h => rep_list1 h) (hz'.trans hz1) hd' hK
  ·
   rename_i hy1 hz1 hs1
   cases h
   exact OW.cmpNil (z := false) ho (.inl rfl) hg hs1 (by rw [hy, hy1]; exact fun _ _ _ _ _ h => rep_own1 h) (hz'.trans hz1) hd' hK
  ·
   rename_i hy1 hz1 hs1
   cases h
   exact OW.cmpNil (z := false) ho (.inr rfl) hg hs1 (by rw [hy, hy1]; exact fun _ _ _ _ _ h => rep_own1 h) (hz'.trans hz1) hd' hK
  ·
   rename_i hy1 hz1 hs1
   cases h
   exact OW.cmpNil (z := true) ho (.inl rfl) hg hs1 (by rw [hy, hy1]; exact fun _ _ _ _ _ h => rep_nil1 h) (hz'.trans hz1) hd' hK
  ·
   rename_i hy1 hz1 hs1
   cases h
   exact OW.cmpNil (z := true) ho (.inr rfl) hg hs1 (by rw [hy, hy1]; exact fun _ _ _ _ _ h => rep_nil1 h) (hz'.trans hz1) hd' hK
  · cases h
 · cases h

variable {ih : Task → Option Out} {tb : Tab}

theorem callX_sound (IH : ∀ t o, ih t = some o → Snd P t o) {f : FuncId} {vs : List V} {r : V} {obs : Obs} (h : callX ih s f vs = some (r, obs)) :
  (∀ v ∈ vs, okD s.O dep v) ∧ ((CallOK P f (vs.map (toD s.O dep)) r obs ∧ (vs.all noO = true ∨ cleanV r = true ∧ obs.all (fun ob => ob.1.all isValD) = true)) ∨ ∃ x, r = .d x ∧ obs = [] ∧ CallF P f (vs.map (toD s.O dep)) x) := by
 unfold callX at h
 split at h
 ·
  rename_i hok
  split at h
  ·
   rename_i r' obs' fr hih
   split at h
   ·
    rename_i hcl
    cases h
    refine ⟨fun v hv => okB_ok _ _ (List.all_eq_true.1 hok v hv), ?_⟩
    obtain ⟨h1, h2⟩ := IH _ _ hih
    rw [Bool.or_eq_true, Bool.or_eq_true, Bool.and_eq_true] at hcl
    rcases hcl with (hcl | hcl) | hcl
    · exact .inl ⟨h1, .inl hcl⟩
    · exact .inr (h2 hcl)
    · exact .inl ⟨h1, .inr hcl⟩
   · cases h
  · cases h
 · cases h
theorem OW.callF {fo : Operand} {xs : Array Operand} {ts : Array TypeId} (ho : o.op = .call { callee := .value fo, args := xs, argTypes := ts }) (hg : o.guard = none) {f : FuncId} {caps vs : List V} (hf : E0 (ev env fo) = some (f, caps)) (hvs : xs.toList.map (ev env) ++ caps = vs)
  {x : D} {k : Nat} (hc : CallF P f (vs.map (toD env.objs k)) x) (hok : ∀ v ∈ vs, okD env.objs k v) (hd : l5 env o.dst) (h : OW ro P all rest (putO env o.dst (.d x)) K) : OW ro P all (o :: rest) env K := by
 intro B w0 S0 φ a w Q hr hK
 obtain ⟨us, hex, hus⟩ := B9 hr ho hf hc.1
 rw [hvs] at hus
 unfold wpListIn
 rw [if_pos (k7 hg _)]
 refine wp_enter hex ((hc.sound hok hr hus).mono ?_)
 rintro e w' ⟨v, rfl, hgr, hrep⟩
 refine ⟨v, rfl, ?_⟩
 exact h B w0 S0 φ _ w' Q ((hr.grow0 hgr).putO o.dst hd _ v hrep) hK

theorem roundX_sound {c : ICx} {us : List V} {j : Nat} {s2 : St} (h : roundX ih c s us = some (j, s2)) : s.j = 0 ∧ us.length = c.ps.length ∧
  ∃ s1 e, ih (.code .round c.nt c.assign { T := (c.T.map (k9 s.ks)).puts (c.ps.zip us), O := s.O, g := s.O.length }) = some (.code .normal s1) ∧ ih (.code .round c.nt c.body s1) = some (.code e s2) ∧ jumps pendX e j := by
 unfold roundX at h
 split at h
 ·
  rename_i hj
  refine ⟨hj.1, hj.2, ?_⟩
  split at h
  ·
   rename_i s1 h1
   split at h
   · rename_i h2; cases h; exact ⟨s1, _, h1, h2, .inl ⟨rfl, rfl⟩⟩
   · rename_i h2; cases h; exact ⟨s1, _, h1, h2, .inr ⟨by simp, .inl ⟨rfl, rfl⟩⟩⟩
   · rename_i id _ h2; cases h; exact ⟨s1, _, h1, h2, .inr ⟨by simp, .inr ⟨id, rfl, by simp [pendX]⟩⟩⟩
   · cases h
  · cases h
 · cases h

theorem isYield_spec {c : ICx} {t : Nat} {y : List Nat} {xs : List Operand} (h : isYield m y o = some (c, t, xs)) : m = .iter c ∧ y.contains t = true ∧ ∃ xa ts, o.op = .call { callee := .value (.tmp t), args := xa, argTypes := ts } ∧ xa.toList = xs := by
 unfold isYield at h
 split at h
 ·
  rename_i c' t' xa ts ho
  split at h
  ·
   rename_i hy
   cases h
   exact ⟨rfl, hy, xa, ts, ho, rfl⟩
  · cases h
 · cases h
theorem isAlias_spec {t d : Nat} {y : List Nat} (h : isAlias m y o = some (t, d)) : (∃ c, m = .iter c) ∧ y.contains t = true ∧ o.op = .move (.tmp t) ∧ o.dst = some d := by
 unfold isAlias at h
 split at h
 ·
  rename_i c' t' d' ho hd
  split at h
  ·
   rename_i hy
   cases h
   exact ⟨⟨_, rfl⟩, hy, ho, hd⟩
  · cases h
 · cases h
theorem Snd.code {m : Md} {nt : Nat} {c : Code} {s s' : St} {e : Exit} (h : Snd P (.code m nt c s) (.code e s')) : ∀ b Q, Fits m b → Q e (mk b nt s') → PW b.ro P c Q (mk b nt s) := h.2
theorem Snd.g {m : Md} {nt : Nat} {c : Code} {s s' : St} {e : Exit} (h : Snd P (.code m nt c s) (.code e s')) : s'.g = s.g := h.1
theorem quickQ_spec {v : V} (h : quickQ P m s o = some v) : no0 m s.y o = true ∧ opQ P s o.op = some v := by
 cases m with
 | iter c =>
  simp only [quickQ] at h
  split at h
  · rename_i h0; exact ⟨h0, h⟩
  · cases h
 | _ => exact ⟨rfl, h⟩
theorem quick_sound (hb : Fits m b) (hg : o.guard = none) (hs : okSl nt o = true) {v : V} (h : quickQ P m s o = some v) (hK : OW b.ro P all rest (mk b nt { s with T := putT s.T o.dst v }) K) : OW b.ro P all (o :: rest) (mk b nt s) K := by
 obtain ⟨hz, hq⟩ := quickQ_spec h
 have r := opQ_spec hq (env := mk b nt s) rfl fun x hx => ev_mk hb (no0_opd hz x hx) (G7 hs x hx)
 refine OW.step hg ?_
 rw [opQ_step hq]
 refine ⟨⟨r.1, D9 (D4 hs) rfl⟩, ?_⟩
 rw [r.2, ← n8 hb (r8 hz) (D4 hs)]
 exact hK

theorem frzS_mk (j : Nat) : (mk b nt s).frz j = mk b nt (frzS s j) := by
 unfold Env.frz frzS
 simp only [show (mk b nt s).objs = s.O from rfl]
 cases s.O[j]? with
 | none => rfl
 | some ob =>
  simp only [mk, slots_map (fun v => v.frz s.O j)]
  congr 1
  congr 1
  funext t
  exact (slot_map (b := b) (s := s) (s' := { s with T := s.T.map fun v => v.frz s.O j, O := (s.O.map (frzOb s.O j)).set j ⟨[], ob.e⟩ }) (g := fun v => v.frz s.O j) (fun x => by simp only [V.frz]) rfl (fun t => Tr.get_map (f := fun v => v.frz s.O j) (by simp only [V.frz]) s.T t) t).symm
theorem frzS_g (j : Nat) : (frzS s j).g = s.g := by unfold frzS; split <;> rfl
theorem frzS_y (j : Nat) : (frzS s j).y = s.y := by unfold frzS; split <;> rfl
theorem frzV_sound (hb : Fits m b) : ∀ (vs : List V) (s : St), (frzV vs s).g = s.g ∧ (frzV vs s).y = s.y ∧ (OW b.ro P all (o :: rest) (mk b nt (frzV vs s)) K → OW b.ro P all (o :: rest) (mk b nt s) K)
 | [], s => ⟨rfl, rfl, fun h => h⟩
 | v :: vs, s => by
  have key : ∀ i, (if decide (s.g ≤ i) && (cellsOf s.O i).all isD then frzV vs (frzS s i) else frzV vs s).g = s.g ∧ (if decide (s.g ≤ i) && (cellsOf s.O i).all isD then frzV vs (frzS s i) else frzV vs s).y = s.y ∧
    (OW b.ro P all (o :: rest) (mk b nt (if decide (s.g ≤ i) && (cellsOf s.O i).all isD then frzV vs (frzS s i) else frzV vs s)) K → OW b.ro P all (o :: rest) (mk b nt s) K) := by
   intro i
   split
   ·
    rename_i hc
    simp only [Bool.and_eq_true, decide_eq_true_eq] at hc
    obtain ⟨r1, r2, r3⟩ := frzV_sound hb vs (frzS s i)
    refine ⟨r1.trans (frzS_g i), r2.trans (frzS_y i), fun h => OW.frz i hc.1 hc.2 ?_⟩
    rw [frzS_mk]
    exact r3 h
   · exact frzV_sound hb vs s
  cases v with
  | own i _ _ _ => exact key i
  | ptr i _ => exact key i
  | _ => exact frzV_sound hb vs s
theorem preS_sound (hb : Fits m b) (fo : Operand) (xs : List Operand) (s : St) : (preS tb s fo xs).g = s.g ∧ (preS tb s fo xs).y = s.y ∧ (OW b.ro P all (o :: rest) (mk b nt (preS tb s fo xs)) K → OW b.ro P all (o :: rest) (mk b nt s) K) := by
 unfold preS
 split
 ·
  split
  · exact frzV_sound hb _ s
  · exact ⟨rfl, rfl, fun h => h⟩
 · exact ⟨rfl, rfl, fun h => h⟩
theorem callS_sound (IH : ∀ t o, ih t = some o → Snd P t o) (hb : Fits m b) (hg : o.guard = none) (hs : okSl nt o = true) (hz : no0 m s.y o = true) {fo : Operand} {xs : List Operand} (hv : valCall o = some (fo, xs)) (h : callS tb ih s o fo xs = some s') (hK : OW b.ro P all rest (mk b nt s') K) : OW b.ro P all (o :: rest) (mk b nt s) K := by
 have hd := D4 hs
 have hd' : l5 (mk b nt s) o.dst := D9 hd rfl
 have hsl := G7 hs
 have hop : ∀ x, x ∈ o.op.operands.toList → ev (mk b nt s) x = s.ev x := fun x hx => ev_mk hb (no0_opd hz x hx) (hsl x hx)
 unfold callS at h
 obtain ⟨xa, ts, ho, hxs⟩ := valCall_spec hv
 have hfo : ev (mk b nt s) fo = s.ev fo := hop fo (by rw [ho]; simp [Op.operands, Call.operands])
 have hxe : xa.toList.map (ev (mk b nt s)) = xs.map s.ev := by
  rw [hxs]
  refine List.map_congr_left fun x hx => hop x ?_
  rw [ho, ← hxs] at *
  simp only [Op.operands, Call.operands, Array.toList_append, List.mem_append]
  exact .inr hx
 split at h
 ·
  rename_i f caps hcl
  split at h
  ·
   split at h
   ·
    rename_i r O' ks hih
    split at h
    ·
     rename_i hle
     cases h
     refine OW.callM (ks := ks) (r := r) (objs' := O') ho hg (by rw [hfo]; exact hcl) ?_ hle hd' ?_
     · rw [hxe]; exact IH _ _ hih
     ·
      have e : ({ mk b nt s with tmps := (mk b nt s).tmps.map fun x => (x.1, k9 ks x.2), objs := O', gs := ((mk b nt s).gs.1, (mk b nt s).gs.2.map fun x => (k9 ks x.1, x.2)) } : Env) = mk b nt { s with T := s.kill ks, O := O', ks := s.ks ++ ks } := kill_mk ks O' s.j s.q rfl
      rw [e]
      refine n8 hb ?_ hd ▸ hK
      exact r8 hz
    · cases h
   · cases h
  ·
   split at h
   ·
    rename_i r obs hc
    cases h
    obtain ⟨h1, ⟨h2, h3⟩ | ⟨x, rfl, rfl, h2⟩⟩ := callX_sound IH hc
    ·
     refine g9 dep ho hg (by rw [hfo]; exact hcl) rfl (by rw [hxe]; rfl) h2 (by rw [hxe]; exact h1) (by rw [hxe]; exact h3) hd' ?_
     have e : (mk b nt s).addObs obs = mk b nt { s with O := s.O ++ obs.map toOb } := rfl
     rw [e]
     refine n8 hb ?_ hd ▸ hK
     exact r8 hz
    ·
     refine OW.callF (k := dep) ho hg (by rw [hfo]; exact hcl) (by rw [hxe]) h2 h1 hd' ?_
     simp only [V.shift, List.map_nil, List.append_nil] at hK
     refine n8 hb ?_ hd ▸ hK
     exact r8 hz
   · cases h
 · cases h
theorem slowX_sound (IH : ∀ t o, ih t = some o → Snd P t o) (hb : Fits m b) (hg : o.guard = none) (hs : okSl nt o = true) (h : slowX P tb ih m nt s o = some s') (hK : OW b.ro P all rest (mk b nt s') K) : OW b.ro P all (o :: rest) (mk b nt s) K := by
 have hd := D4 hs
 have hd' : l5 (mk b nt s) o.dst := D9 hd rfl
 have hsl := G7 hs
 unfold slowX at h
 split at h
 ·
  -- yield
  rename_i c t xs hy
  obtain ⟨rfl, hyt, xa, ts, ho, hxs⟩ := isYield_spec hy
  have hmem : ∀ x ∈ xs, x ∈ o.op.operands.toList := by
   intro x hx
   rw [ho, ← hxs] at *
   simp only [Op.operands, Call.operands, Array.toList_append, List.mem_append]
   exact .inr hx
  have htn : t < nt := slB_t (hsl (.tmp t) (by rw [ho]; simp [Op.operands, Call.operands]))
  split at h
  ·
   rename_i hcond
   simp only [Bool.and_eq_true] at hcond
   obtain ⟨hd0, hx⟩ := hcond
   split at h
   ·
    rename_i j s2 hr
    cases h
    obtain ⟨lc, m0, G0, hF⟩ := id hb
    obtain ⟨hj, hul, s1, e, h1, h2, hjmp⟩ := roundX_sound hr
    have hro := hF.ro
    rw [hro] at hK ⊢
    have hth0 : (mk b nt s).th = (lc.th 0, false) := by simp only [mk, hF.th, hj]
    have hct : (A5 c.nt c.T.get).map (fun x => (x.1, k9 s.ks x.2)) = A5 c.nt (c.T.map (k9 s.ks)).get := by
     rw [slots_map]
     congr 1
     funext u
     exact (Tr.get_map (killAll_dead _) _ _).symm
    have hgs0 : (mk b nt s).gs.2 = toG (A5 c.nt (c.T.map (k9 s.ks)).get) lc.ts m0 ++ killG s.ks G0 := by
     rw [← hct]
     simp only [mk, hF.G]; exact killG_toG s.ks _ lc.ts m0 G0
    have hps : xa.size = lc.ps.size := by
     have e1 : xs.length = c.ps.length := by simpa using hul
     rw [← hxs, ← hF.ps] at e1
     simpa using e1
    refine OW.yieldK lc c.nt _ m0 _ ho hg ?_ hth0 hF.nt hps (fun p hp => (hF.pl p (hF.ps ▸ hp)).1) hgs0 hd' ?_
    · simp only [mk, ev]; rw [s6, if_pos htn]; exact slot_in hF.it hyt
    ·
     intro us
     have hev : xa.toList.map (ev (mk b nt s)) = xs.map s.ev := by rw [hxs]; exact evs_mk hb hx fun x hx => hsl x (hmem x hx)
     rw [hev, hF.ps, hF.as, hF.bd, hF.pd, putAll_slots _ _ fun x hx => hF.pl x.1 (by
      obtain ⟨x1, x2⟩ := x
      exact (List.of_mem_zip hx).1)]
     obtain ⟨b1, hb1⟩ : ∃ b1 : Base, b1 = ⟨some lc.L, none, toG (mk b nt s).tmps us (mk b nt s).objs.length ++ (mk b nt s).gs.2, fun _ _ => (lc.th 0, false)⟩ := ⟨_, rfl⟩
     obtain ⟨b2, hb2⟩ : ∃ b2 : Base, b2 = ⟨some lc.L, none, toG (mk b nt s).tmps us (mk b nt s).objs.length ++ (mk b nt s).gs.2, fun _ _ => (lc.busy, false)⟩ := ⟨_, rfl⟩
     have f1 : Fits .round b1 := by subst hb1; exact ⟨rfl, _, rfl⟩
     have f2 : Fits .round b2 := by subst hb2; exact ⟨rfl, _, rfl⟩
     have hkill0 : ∀ (G : Gh), (G.map fun x => (k9 [] x.1, x.2)) = G := fun G => (List.map_congr_left fun x _ => rfl).trans (List.map_id _)
     have k1 := (IH _ _ h1).code b1 (fun e env1 => e = .normal ∧ env1.th = (lc.th 0, false) ∧
      PW (some lc.L) P c.body (fun e env2 => ∃ j ks, jumps pendX e j ∧ env2.th = (lc.busy, false) ∧ env2.gs = ((mk b nt s).objs.length, killG ks (toG (mk b nt s).tmps us (mk b nt s).objs.length ++ (mk b nt s).gs.2)) ∧
       OW none P all rest (putO ((mk b nt s).behindK ks env2.objs (lc.th j, false)) o.dst (A0 (j == 0))) K) { env1 with th := (lc.busy, false) }) f1 ?_
     ·
      subst hb1
      simp only [mk, hkill0] at k1 ⊢
      exact k1
     ·
      refine ⟨rfl, by subst hb1; rfl, ?_⟩
      have k2 := (IH _ _ h2).code b2 (fun e env2 => ∃ j ks, jumps pendX e j ∧ env2.th = (lc.busy, false) ∧ env2.gs = ((mk b nt s).objs.length, killG ks (toG (mk b nt s).tmps us (mk b nt s).objs.length ++ (mk b nt s).gs.2)) ∧
       OW none P all rest (putO ((mk b nt s).behindK ks env2.objs (lc.th j, false)) o.dst (A0 (j == 0))) K) f2 ?_
      · subst hb1; subst hb2; exact k2
      ·
       refine ⟨j, s2.ks, hjmp, by subst hb2; rfl, ?_, ?_⟩
       ·
        have hg2 : s2.g = s.O.length := ((IH _ _ h2).g).trans ((IH _ _ h1).g)
        subst hb2; simp only [mk, killG, hg2]
       ·
        have e : (mk b nt s).behindK s2.ks (mk b2 c.nt s2).objs (lc.th j, false) = mk b nt { T := s.kill s2.ks, O := s2.O, ks := s.ks ++ s2.ks, j := j, q := s.q, g := s.g, y := s.y } := kill_mk s2.ks s2.O j s.q (by rw [hF.th])
        rw [e]
        refine n8 hb ?_ hd ▸ hK
        exact hd0
   · cases h
  · cases h
 ·
  split at h
  ·
   -- another name
   rename_i t d hal
   obtain ⟨⟨c, rfl⟩, hyt, ho, hdst⟩ := isAlias_spec hal
   cases h
   obtain ⟨lc, m0, G0, hF⟩ := id hb
   have htn : t < nt := slB_t (hsl (.tmp t) (by rw [ho]; simp [Op.operands]))
   rw [hdst] at hd
   have hdn := dstB_t hd
   have hgt : get (mk b nt s).tmps t = yv lc.L := by
    simp only [mk]; rw [s6, if_pos htn]; exact slot_in hF.it hyt
   refine OW.step hg ?_
   have e : y8 P (mk b nt s) o = pureF (mk b nt s) (some d) (True, yv lc.L) := by
    unfold y8; simp only [ho, hdst, opF, ev, hgt]
   rw [e]
   refine ⟨⟨trivial, hdn.1⟩, ?_⟩
   have e2 : putO (mk b nt s) (some d) (yv lc.L) = mk b nt { s with T := s.T.put d .dead, y := d :: s.y } := by
    simp only [mk, putO, Env.put, put_slots hdn.1]
    congr 1
    congr 1
    funext u
    unfold Base.slot
    simp only [hF.it]
    by_cases hu : u = d
    · subst hu; rw [if_pos rfl, if_pos (by simp)]
    ·
     rw [if_neg hu, Tr.get_put hdn.2, if_neg hu]
     have : (d :: s.y).contains u = s.y.contains u := by simp only [List.contains_cons, beq_eq_false_iff_ne.2 hu, Bool.false_or]
     rw [this]
   simp only [pureF]
   rw [e2]
   exact hK
  split at h
  ·
   rename_i hz
   have hop : ∀ x, x ∈ o.op.operands.toList → ev (mk b nt s) x = s.ev x := fun x hx => ev_mk hb (no0_opd hz x hx) (hsl x hx)
   split at h
   ·
    rename_i fo xs hv
    obtain ⟨p1, p2, p3⟩ := preS_sound (tb := tb) (P := P) (all := all) (rest := rest) (K := K) (o := o) (nt := nt) hb fo xs s
    exact p3 (callS_sound IH hb hg hs (by rw [p2]; exact hz) hv h hK)
   ·
    simp only [] at h
    split at h
    ·
     rename_i x hx
     cases h
     exact extra_sound hb hg hz hs hx hK
    ·
     split at h
     ·
      rename_i hc
      cases h
      have r := same_step (P := P) hb hz hs hc
      exact OW.step hg ⟨r.1, OW.eqv r.2 hK⟩
     · cases h
  · cases h
theorem opX_sound (IH : ∀ t o, ih t = some o → Snd P t o) (hb : Fits m b) (hg : o.guard = none) (h : opX P tb ih m nt s o = some s') (hK : OW b.ro P all rest (mk b nt s') K) : OW b.ro P all (o :: rest) (mk b nt s) K := by
 unfold opX at h
 split at h
 ·
  rename_i hs
  split at h
  ·
   rename_i v hv
   cases h
   exact quick_sound hb hg hs hv hK
  · exact slowX_sound IH hb hg hs h hK
 · cases h
end
end Go.PW
