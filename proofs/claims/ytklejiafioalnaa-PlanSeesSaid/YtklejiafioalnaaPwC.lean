/-
 What each operation makes of the call's own state, as a function; and that the machine does just that. For every program.
-/
import Derived.Test.YtklejiafioalnaaPwB
set_option linter.all false
namespace Go.PW
open Go.RowKit

def tyOf (P : Program) (t : TypeId) : Option (Nat × Nat × List Value) := (P.info? t).bind fun i => i.zero.bind fun z => if z.cells.size = i.size then some (i.size, i.bytes, z.cells.toList) else none
def aggOf (P : Program) (t : TypeId) : Option Bool := (P.underlying t).map fun | .struct _ | .array .. => true | _ => false
def fldOff (P : Program) (s f : Nat) : Option (Nat × TypeId) := match P.underlying s with | some (.struct fs) => (fs[f]?).map fun x => (x.offset, x.type) | _ => none
def selOf (P : Program) (t : TypeId) : Option TypeId := match P.underlying t with | some (.slice e) => some e | _ => none
def arrOf (P : Program) (t : TypeId) : Option (Nat × TypeId) := match P.underlying t with | some (.array n e) => some (n, e) | _ => none
def kindOf (P : Program) (t : TypeId) : Option IntKind := match P.underlying t with | some (.int k) => some k | _ => none
def isBoolT (P : Program) (t : TypeId) : Bool := match P.underlying t with | some .bool => true | _ => false
def isStrT (P : Program) (t : TypeId) : Bool := match P.underlying t with | some .string => true | _ => false

def constV : Value → V
 | .agg cs => .agg (cs.toList.map fun x => .d (.val x))
 | v => .d (.val v)
def ev (env : Env) : Operand → V
 | .tmp t => get env.tmps t
 | .const v => constV v
 | .global _ => .dead
 | .func f => .d (.clo f [])
def strip (g : Bool) : V → V
 | .guarded c r => if (!g || c) then r else .dead
 | v => v
def cellsV : V → List V
 | .agg vs => vs
 | .d (.agg ds) => ds.map .d
 | v => [v]
def oneV : V → Bool
 | .d (.val x) => x.oneCell'
 | .d (.list ..) | .d (.ref _) | .d (.clo ..) | .own .. | .ptr .. | .clo .. => true
 | _ => false
def cellsOf (objs : List Ob) (i : Nat) : List V := match objs[i]? with | some ob => ob.cells | none => []
def vdef : V := .d default
def subV (cells : List V) (k n : Nat) : List V := (List.range n).map fun j => cells.getD (k + j) vdef
def setMany {α : Type} (cells : List α) (k : Nat) : List α → List α
 | [] => cells
 | v :: vs => setMany (cells.set k v) (k + 1) vs
def bad : Prop × V := (False, .dead)
def vbool (b : Bool) : V := .d (.val (.bool b))
def vint (k : IntKind) (n : Int) : V := .d (.val (.int k n))

def loadF (P : Program) (objs : List Ob) (t : TypeId) (x : V) : Prop × V :=
 match tyOf P t, aggOf P t, x with
 | some (s, _, _), some true, .d (.ref cells) => (s ≤ cells.length, .agg ((sub cells 0 s).map .d))
 | some (s, _, _), some true, .ptr i off => (off + s ≤ (cellsOf objs i).length, .agg (subV (cellsOf objs i) off s))
 | some _, some false, .d (.ref cells) => (0 < cells.length, .d (cells.getD 0 default))
 | some _, some false, .ptr i off => (off < (cellsOf objs i).length, (cellsOf objs i).getD off vdef)
 | _, _, _ => bad

def fieldAddrF (P : Program) (s : TypeId) (x : V) (f : Nat) : Prop × V :=
 match fldOff P s f with
 | some (off, ft) =>
  match tyOf P ft, x with
  | some (s, _, _), .ptr i o => (s ≠ 0, .ptr i (o + off))
  | some (s, _, _), .d (.ref cells) => (s ≠ 0, .d (.ref (cells.drop off)))
  | _, _ => bad
 | none => bad

def indexAddrF (P : Program) (t : TypeId) (x ix : V) : Prop × V :=
 match ix with
 | .d (.val (.int _ k)) =>
  match selOf P t, arrOf P t with
  | some e, _ =>
   match tyOf P e, x with
   | some (s, _, _), .own i off n sz => (0 ≤ k ∧ k < n ∧ sz = s, .ptr i (off + k.toNat * s))
   | some (s, _, _), .d (.list n cells) => (0 ≤ k ∧ k < n ∧ k.toNat * s + s ≤ cells.length ∧ s ≠ 0, .d (.ref (sub cells (k.toNat * s) s)))
   | _, _ => bad
  | none, some (n, e) =>
   match tyOf P e, x with
   | some (s, _, _), .ptr i off => (0 ≤ k ∧ k < n, .ptr i (off + k.toNat * s))
   | some (s, _, _), .d (.ref cells) => (0 ≤ k ∧ k < n ∧ k.toNat * s + s ≤ cells.length ∧ s ≠ 0, .d (.ref (sub cells (k.toNat * s) s)))
   | _, _ => bad
  | _, _ => bad
 | _ => bad

def aggV : V → Option (List V)
 | .agg vs => some vs
 | .d (.agg ds) => some (ds.map .d)
 | _ => none
def fieldF (P : Program) (t : TypeId) (x : V) (f : Nat) : Prop × V :=
 match fldOff P t f, aggV x with
 | some (off, ft), some cells =>
  match tyOf P ft, aggOf P ft with
  | some (s, _, _), some true => (off + s ≤ cells.length, .agg (subV cells off s))
  | some _, some false => (off < cells.length, cells.getD off vdef)
  | _, _ => bad
 | _, _ => bad

def extractF (x : V) (k : Nat) : Prop × V :=
 match x with
 | .tup vs => (k < vs.length, vs.getD k vdef)
 | .d (.tup ds) => (k < ds.length, .d (ds.getD k default))
 | _ => bad

def lenF (P : Program) (t : TypeId) (x : V) : Prop × V :=
 match selOf P t, x with
 | some _, .own _ _ n _ => (True, vint .i64 n)
 | some _, .d (.list n _) => (True, vint .i64 n)
 | some _, .d (.val (.slice _ n _)) => (True, vint .i64 n)
 | none, .d (.val (.string s)) => (isStrT P t = true, vint .i64 s.size)
 | _, _ => bad

def optInt (x : Option V) (dflt : Int) : Option Int :=
 match x with
 | none => some dflt
 | some (.d (.val (.int _ k))) => some k
 | _ => none

def sliceF (P : Program) (t : TypeId) (x : V) (lo hi : Option V) : Prop × V :=
 match x with
 | .own i off n sz =>
  match selOf P t, optInt lo 0, optInt hi n with
  | some e, some l, some h => match tyOf P e with
   | some (s, _, _) => (0 ≤ l ∧ l ≤ h ∧ h ≤ n ∧ sz = s ∧ s ≠ 0, .own i (off + l.toNat * s) (h.toNat - l.toNat) s)
   | none => bad
  | _, _, _ => bad
 | .d (.list n cells) =>
  match selOf P t, optInt lo 0, optInt hi n with
  | some e, some l, some h => match tyOf P e with
   | some (s, _, _) => (0 ≤ l ∧ l ≤ h ∧ h ≤ n, .d (.list (h.toNat - l.toNat) ((cells.drop (l.toNat * s)).take ((h.toNat - l.toNat) * s))))
   | none => bad
  | _, _, _ => bad
 | .d (.val (.string b)) =>
  match isStrT P t, optInt lo 0, optInt hi b.size with
  | true, some l, some h => (0 ≤ l ∧ l ≤ h ∧ h ≤ b.size, .d (.val (.string (b.extract l.toNat h.toNat))))
  | _, _, _ => bad
 | .d (.val (.slice none 0 0)) =>
  match selOf P t, optInt lo 0, optInt hi 0 with
  | some e, some l, some h => match tyOf P e with
   | some (_, _, _) => (0 ≤ l ∧ l ≤ h ∧ h ≤ 0, .d (.val (.slice none 0 0)))
   | none => bad
  | _, _, _ => bad
 | .d (.ref cells) =>
  match arrOf P t with
  | some (n, e) => match optInt lo 0, optInt hi n, tyOf P e with
   | some l, some h, some (s, _, _) => (0 ≤ l ∧ l ≤ h ∧ h ≤ n, .d (.list (h.toNat - l.toNat) ((cells.drop (l.toNat * s)).take ((h.toNat - l.toNat) * s))))
   | _, _, _ => bad
  | none => bad
 | _ => bad

def slice3F (P : Program) (t : TypeId) (x lo hi mx : V) : Prop × V :=
 match x, lo, hi, mx with
 | .d (.list n cells), .d (.val (.int _ l)), .d (.val (.int _ h)), .d (.val (.int _ m)) =>
  match selOf P t with
  | some e => match tyOf P e with
   | some (s, _, _) => (0 ≤ l ∧ l ≤ h ∧ h ≤ m ∧ m ≤ n, .d (.list (h.toNat - l.toNat) ((cells.drop (l.toNat * s)).take ((h.toNat - l.toNat) * s))))
   | none => bad
  | none => bad
 | _, _, _, _ => bad

def indexF (P : Program) (t : TypeId) (x ix : V) : Prop × V :=
 match x, ix with
 | .d (.val (.string b)), .d (.val (.int _ k)) => (isStrT P t = true ∧ 0 ≤ k ∧ k < b.size, vint .u8 ((b.data.getD k.toNat 0).toNat))
 | .agg cells, .d (.val (.int _ k)) =>
  match arrOf P t with
  | some (n, e) => match tyOf P e, aggOf P e with
   | some (s, _, _), some true => (0 ≤ k ∧ k < n ∧ k.toNat * s + s ≤ cells.length, .agg (subV cells (k.toNat * s) s))
   | some (s, _, _), some false => (0 ≤ k ∧ k < n ∧ k.toNat * s < cells.length, cells.getD (k.toNat * s) vdef)
   | _, _ => bad
  | none => bad
 | _, _ => bad

def bitI (op : BinOp) (k : IntKind) (x y : Int) : Int :=
 k.wrap (match op with
  | .and => (BitVec.ofInt k.bits x &&& BitVec.ofInt k.bits y).toNat
  | .or => (BitVec.ofInt k.bits x ||| BitVec.ofInt k.bits y).toNat
  | .xor => (BitVec.ofInt k.bits x ^^^ BitVec.ofInt k.bits y).toNat
  | _ => (BitVec.ofInt k.bits x &&& ~~~ BitVec.ofInt k.bits y).toNat)

inductive Lk | int | bool | str
def sizeT (P : Program) (t : TypeId) : Nat := match P.info? t with | some i => i.size | none => 0
def eqPlan (P : Program) : Nat → TypeId → Option (List (Nat × Lk))
 | 0, _ => none
 | d + 1, t =>
  match P.underlying t with
  | some (.int _) => some [(0, .int)]
  | some .bool => some [(0, .bool)]
  | some .string => some [(0, .str)]
  | some (.struct fs) => if P.stoodInHeld t = true then none else
   fs.toList.foldr (fun f r => match r with
    | none => none
    | some q => if f.name = "_" then some q else match eqPlan P d f.type with
     | none => none
     | some p => if p.all (fun x => decide (x.1 < sizeT P f.type)) = true then some (p.map (fun x => (f.offset + x.1, x.2)) ++ q) else none) (some [])
  | some (.array n e) => match eqPlan P d e with
   | none => none
   | some p => if p.all (fun x => decide (x.1 < sizeT P e)) = true then some ((List.range n).flatMap fun j => p.map fun x => (j * sizeT P e + x.1, x.2)) else none
  | _ => none
def eqPlanT (P : Program) (t : TypeId) : Option (List (Nat × Lk)) := match aggOf P t with | some true => if P.eqGuardType P.depth t = true then none else eqPlan P 20 t | _ => none
def leafE : Lk → V → V → Option Bool
 | .int, .d (.val (.int k a)), .d (.val (.int k' b)) => if k = k' then some (a == b) else none
 | .bool, .d (.val (.bool a)), .d (.val (.bool b)) => some (a == b)
 | .str, .d (.val (.string a)), .d (.val (.string b)) => some (a.toList == b.toList)
 | _, _, _ => none
def eqCells : List (Nat × Lk) → List V → List V → Option Bool
 | [], _, _ => some true
 | (o, k) :: r, xs, ys => match leafE k (xs.getD o .dead) (ys.getD o .dead), eqCells r xs ys with
  | some a, some b => some (a && b)
  | _, _ => none
def ptrB (op : BinOp) (b : Bool) : Prop × V :=
 match op with
 | .eql => (True, vbool b)
 | .neq => (True, vbool (!b))
 | _ => bad
def isPtrT (P : Program) (t : TypeId) : Bool := match P.underlying t with | some (.pointer _) => true | _ => false

def binF (P : Program) (op : BinOp) (t : TypeId) (x y : V) : Prop × V :=
 match x, y with
 | .d (.val (.int k a)), .d (.val (.int k' b)) =>
  match op with
  | .add => (k = k', vint k (k.wrap (a + b)))
  | .sub => (k = k', vint k (k.wrap (a - b)))
  | .mul => (k = k', vint k (k.wrap (a * b)))
  | .quo => (k = k' ∧ b ≠ 0, vint k (k.wrap (a.tdiv b)))
  | .rem => (k = k' ∧ b ≠ 0, vint k (a.tmod b))
  | .and | .or | .xor | .andNot => (k = k', vint k (bitI op k a b))
  | .shl => (0 ≤ b, vint k (k.wrap (a * 2 ^ (min b.toNat k.bits))))
  | .shr => (0 ≤ b, vint k (a.fdiv (2 ^ (min b.toNat k.bits))))
  | .eql => (k = k', vbool (a == b))
  | .neq => (k = k', vbool (a != b))
  | .lss => (k = k', vbool (a < b))
  | .leq => (k = k', vbool (a ≤ b))
  | .gtr => (k = k', vbool (a > b))
  | .geq => (k = k', vbool (a ≥ b))
 | .d (.val (.bool a)), .d (.val (.bool b)) =>
  match op with
  | .eql => (isBoolT P t = true, vbool (a == b))
  | .neq => (isBoolT P t = true, vbool (a != b))
  | _ => bad
 | .d (.val (.string a)), .d (.val (.string b)) =>
  match op with
  | .add => (a.size + b.size ≤ 9223372036854775807, .d (.val (.string (a ++ b))))
  | .eql => (True, vbool (a.toList == b.toList))
  | .neq => (True, vbool (!(a.toList == b.toList)))
  | _ => bad
 | .ptr _ _, .d (.val (.pointer none)) => (isPtrT P t = true ∧ (ptrB op false).1, (ptrB op false).2)
 | .d (.val (.pointer none)), .d (.val (.pointer none)) => (isPtrT P t = true ∧ (ptrB op true).1, (ptrB op true).2)
 | x, y => match aggV x, aggV y, eqPlanT P t with
  | some xs, some ys, some p => match eqCells p xs ys with
   | some b => ptrB op b
   | none => bad
  | _, _, _ => bad

def unF (op : UnOp) (x : V) : Prop × V :=
 match op, x with
 | .neg, .d (.val (.int k n)) => (True, vint k (k.wrap (0 - n)))
 | .not, .d (.val (.bool b)) => (True, vbool (!b))
 | _, _ => bad

def convF (P : Program) (s t : TypeId) (x : V) : Prop × V :=
 match x with
 | .d (.val (.int _ n)) => match kindOf P s, kindOf P t with
  | some _, some k => (True, vint k (k.wrap n))
  | _, _ => bad
 | _ => bad

def boolV : V → Option Bool
 | .d (.val (.bool p)) => some p
 | _ => none
def pickC (x : Bool) (a b : V) : Prop × V :=
 ((x = true → (boolV a).isSome = true) ∧ (x = false → (boolV b).isSome = true), vbool (if x = true then (boolV a).getD false else (boolV b).getD false))
def pickF (c a b : V) : Prop × V :=
 match c with
 | .d (.val (.bool x)) => pickC x (strip x a) (strip (!x) b)
 | _ => bad

def minF (x y : V) : Prop × V :=
 match x, y with
 | .d (.val (.int k a)), .d (.val (.int _ b)) => (True, vint k (if b < a then b else a))
 | _, _ => bad
def maxF (x y : V) : Prop × V :=
 match x, y with
 | .d (.val (.int k a)), .d (.val (.int _ b)) => (True, vint k (if a < b then b else a))
 | _, _ => bad

def min3F (x y z : V) : Prop × V := ((minF x y).1 ∧ (minF (minF x y).2 z).1, (minF (minF x y).2 z).2)
def max3F (x y z : V) : Prop × V := ((maxF x y).1 ∧ (maxF (maxF x y).2 z).1, (maxF (maxF x y).2 z).2)

def fillV (place : Nat → Option (Nat × Nat)) (cells : List V) : List (Nat × V) → Prop × List V
 | [] => (True, cells)
 | (i, v) :: rest =>
  match place i with
  | some (off, size) => let r := fillV place (setMany cells off (cellsV v)) rest; (((cellsV v).length = size ∧ off + size ≤ cells.length ∧ (cellsV v).all oneV = true) ∧ r.1, r.2)
  | none => (False, cells)

def placesOf (P : Program) (t : TypeId) : Option (List (Nat × Nat)) :=
 match P.underlying t with
 | some (.struct fs) => fs.toList.mapM fun f => (P.info? f.type).map fun i => (f.offset, i.size)
 | _ => none

def buildF (P : Program) (t : TypeId) (parts : List (Nat × V)) : Prop × V :=
 match tyOf P t with
 | some (_, _, z) =>
  match placesOf P t, arrOf P t with
  | some pl, _ => let r := fillV (fun i => pl[i]?) (z.map fun x => .d (.val x)) parts; (r.1, .agg r.2)
  | none, some (_, e) => match tyOf P e with
   | some (s, _, _) => let r := fillV (fun i => some (i * s, s)) (z.map fun x => .d (.val x)) parts; (r.1, .agg r.2)
   | none => bad
  | _, _ => bad
 | none => bad

def nilF (x : V) : Prop × V :=
 match x with
 | .ptr .. | .d (.ref _) => (True, x)
 | _ => bad

def opF (P : Program) (env : Env) (op : Op) : Prop × V :=
 match op with
 | .move x | .assign x => (True, ev env x)
 | .pick c a b => pickF (ev env c) (ev env a) (ev env b)
 | .binOp op t x y _ => binF P op t (ev env x) (ev env y)
 | .unOp op _ x => unF op (ev env x)
 | .convert s t x => convF P s t (ev env x)
 | .fieldAddr s x f => fieldAddrF P s (ev env x) f
 | .indexAddr t x i => indexAddrF P t (ev env x) (ev env i)
 | .load t x => loadF P env.objs t (ev env x)
 | .field t x f => fieldF P t (ev env x) f
 | .index t x i => indexF P t (ev env x) (ev env i)
 | .slice t x lo hi none => sliceF P t (ev env x) (lo.map (ev env)) (hi.map (ev env))
 | .slice t x (some lo) (some hi) (some mx) => slice3F P t (ev env x) (ev env lo) (ev env hi) (ev env mx)
 | .extract x k => extractF (ev env x) k
 | .nilCheck x => nilF (ev env x)
 | _ => bad
end Go.PW
