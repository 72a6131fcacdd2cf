import Derived.Test.YtbndgoeahoadlaaGreatDoorPwB
set_option linter.all false
namespace Go.PW
open Go.RowKit

def F3 (P : Program) (t : TypeId) : Option (Nat × Nat × List Value) := (P.info? t).bind fun i => i.zero.bind fun z => if z.cells.size = i.size then some (i.size, i.bytes, z.cells.toList) else none
def aggOf (P : Program) (t : TypeId) : Option Bool := (P.underlying t).map fun | .struct _ | .array .. => true | _ => false
def o4 (P : Program) (s f : Nat) : Option (Nat × TypeId) := match P.underlying s with | some (.struct fs) => (fs[f]?).map fun x => (x.offset, x.type) | _ => none
def C4 (P : Program) (t : TypeId) : Option TypeId := match P.underlying t with | some (.slice e) => some e | _ => none
def arrOf (P : Program) (t : TypeId) : Option (Nat × TypeId) := match P.underlying t with | some (.array n e) => some (n, e) | _ => none
def kindOf (P : Program) (t : TypeId) : Option IntKind := match P.underlying t with | some (.int k) => some k | _ => none
def isBoolT (P : Program) (t : TypeId) : Bool := match P.underlying t with | some .bool => true | _ => false
def isStrT (P : Program) (t : TypeId) : Bool := match P.underlying t with | some .string => true | _ => false

def constV : Value → V
 | .agg cs => .agg (cs.toList.map fun x => .d (.val x))
 | v => .d (.val v)
def ev (env : Env) : Operand → V
 | .tmp t => get env.tmps t
 | .const v => constV v
 | .global g => gval g
 | .func f => .d (.clo f [])
def strip (g : Bool) : V → V
 | .guarded c r => if (!g || c) then r else .dead
 | v => v
def r6 : V → List V
 | .agg vs => vs
 | .d (.agg ds) => ds.map .d
 | v => [v]
def oneV : V → Bool
 | .d (.val x) => x.oneCell'
 | .d (.list ..) | .d (.ref _) | .d (.clo ..) | .own .. | .ptr .. | .clo .. => true
 | _ => false
def cellsOf (objs : List Ob) (i : Nat) : List V := match objs[i]? with | some ob => ob.cells | none => []
def n5 : V := .d default
def subV (cells : List V) (k n : Nat) : List V := (List.range n).map fun j => cells.getD (k + j) n5
def setMany {α : Type} (cells : List α) (k : Nat) : List α → List α
 | [] => cells
 | v :: vs => setMany (cells.set k v) (k + 1) vs
def bad : Prop × V := (False, .dead)
def A0 (b : Bool) : V := .d (.val (.bool b))
def vint (k : IntKind) (n : Int) : V := .d (.val (.int k n))

def loadF (P : Program) (objs : List Ob) (t : TypeId) (x : V) : Prop × V :=
 match F3 P t, aggOf P t, x with
 | some (s, _, _), some true, .d (.ref cells) => (s ≤ cells.length, .agg ((sub cells 0 s).map .d))
 | some (s, _, _), some true, .ptr i off => (off + s ≤ (cellsOf objs i).length, .agg (subV (cellsOf objs i) off s))
 | some _, some false, .d (.ref cells) => (0 < cells.length, .d (cells.getD 0 default))
 | some _, some false, .ptr i off => (off < (cellsOf objs i).length, (cellsOf objs i).getD off n5)
 | _, _, _ => bad

def F7 (P : Program) (s : TypeId) (x : V) (f : Nat) : Prop × V :=
 match o4 P s f with
 | some (off, ft) =>
  match F3 P ft, x with
  | some (s, _, _), .ptr i o => (s ≠ 0, .ptr i (o + off))
  | some (s, _, _), .d (.ref cells) => (s ≠ 0, .d (.ref (cells.drop off)))
  | _, _ => bad
 | none => bad

def F5 (P : Program) (t : TypeId) (x ix : V) : Prop × V :=
 match ix with
 | .d (.val (.int _ k)) =>
  match C4 P t, arrOf P t with
  | some e, _ =>
   match F3 P e, x with
   | some (s, _, _), .own i off n sz => (0 ≤ k ∧ k < n ∧ sz = s, .ptr i (off + k.toNat * s))
   | some (s, _, _), .d (.list n cells) => (0 ≤ k ∧ k < n ∧ k.toNat * s + s ≤ cells.length ∧ s ≠ 0, .d (.ref (sub cells (k.toNat * s) s)))
   | _, _ => bad
  | none, some (n, e) =>
   match F3 P e, x with
   | some (s, _, _), .ptr i off => (0 ≤ k ∧ k < n, .ptr i (off + k.toNat * s))
   | some (s, _, _), .d (.ref cells) => (0 ≤ k ∧ k < n ∧ k.toNat * s + s ≤ cells.length ∧ s ≠ 0, .d (.ref (sub cells (k.toNat * s) s)))
   | _, _ => bad
  | _, _ => bad
 | _ => bad

def aggV : V → Option (List V)
 | .agg vs => some vs
 | .d (.agg ds) => some (ds.map .d)
 | _ => none
def fieldF (P : Program) (t : TypeId) (x : V) (f : Nat) : Prop × V :=
 match o4 P t f, aggV x with
 | some (off, ft), some cells =>
  match F3 P ft, aggOf P ft with
  | some (s, _, _), some true => (off + s ≤ cells.length, .agg (subV cells off s))
  | some _, some false => (off < cells.length, cells.getD off n5)
  | _, _ => bad
 | _, _ => bad

def extractF (x : V) (k : Nat) : Prop × V :=
 match x with
 | .tup vs => (k < vs.length, vs.getD k n5)
 | .d (.tup ds) => (k < ds.length, .d (ds.getD k default))
 | _ => bad

def lenF (P : Program) (t : TypeId) (x : V) : Prop × V :=
 match C4 P t, x with
 | some _, .own _ _ n _ => (True, vint .i64 n)
 | some _, .d (.list n _) => (True, vint .i64 n)
 | some _, .d (.val (.slice _ n _)) => (True, vint .i64 n)
 | none, .d (.val (.string s)) => (isStrT P t = true, vint .i64 s.size)
 | _, _ => bad

def optInt (x : Option V) (dflt : Int) : Option Int :=
 match x with
 | none => some dflt
 | some (.d (.val (.int _ k))) => some k
 | _ => none

def sliceF (P : Program) (t : TypeId) (x : V) (lo hi : Option V) : Prop × V :=
 match x with
 | .own i off n sz =>
  match C4 P t, optInt lo 0, optInt hi n with
  | some e, some l, some h => match F3 P e with
   | some (s, _, _) => (0 ≤ l ∧ l ≤ h ∧ h ≤ n ∧ sz = s ∧ s ≠ 0, .own i (off + l.toNat * s) (h.toNat - l.toNat) s)
   | none => bad
  | _, _, _ => bad
 | .d (.list n cells) =>
  match C4 P t, optInt lo 0, optInt hi n with
  | some e, some l, some h => match F3 P e with
   | some (s, _, _) => (0 ≤ l ∧ l ≤ h ∧ h ≤ n, .d (.list (h.toNat - l.toNat) ((cells.drop (l.toNat * s)).take ((h.toNat - l.toNat) * s))))
   | none => bad
  | _, _, _ => bad
 | .d (.val (.string b)) =>
  match isStrT P t, optInt lo 0, optInt hi b.size with
  | true, some l, some h => (0 ≤ l ∧ l ≤ h ∧ h ≤ b.size, .d (.val (.string (b.extract l.toNat h.toNat))))
  | _, _, _ => bad
 | .d (.val (.slice none 0 0)) =>
  match C4 P t, optInt lo 0, optInt hi 0 with
  | some e, some l, some h => match F3 P e with
   | some (_, _, _) => (0 ≤ l ∧ l ≤ h ∧ h ≤ 0, .d (.val (.slice none 0 0)))
   | none => bad
  | _, _, _ => bad
 | .d (.ref cells) =>
  match arrOf P t with
  | some (n, e) => match optInt lo 0, optInt hi n, F3 P e with
   | some l, some h, some (s, _, _) => (0 ≤ l ∧ l ≤ h ∧ h ≤ n, .d (.list (h.toNat - l.toNat) ((cells.drop (l.toNat * s)).take ((h.toNat - l.toNat) * s))))
   | _, _, _ => bad
  | none => bad
 | _ => bad

def slice3F (P : Program) (t : TypeId) (x lo hi mx : V) : Prop × V :=
 match x, lo, hi, mx with
 | .d (.list n cells), .d (.val (.int _ l)), .d (.val (.int _ h)), .d (.val (.int _ m)) =>
  match C4 P t with
  | some e => match F3 P e with
   | some (s, _, _) => (0 ≤ l ∧ l ≤ h ∧ h ≤ m ∧ m ≤ n, .d (.list (h.toNat - l.toNat) ((cells.drop (l.toNat * s)).take ((h.toNat - l.toNat) * s))))
   | none => bad
  | none => bad
 | _, _, _, _ => bad

def indexF (P : Program) (t : TypeId) (x ix : V) : Prop × V :=
 match x, ix with
 | .d (.val (.string b)), .d (.val (.int _ k)) => (isStrT P t = true ∧ 0 ≤ k ∧ k < b.size, vint .u8 ((b.data.getD k.toNat 0).toNat))
 | .agg cells, .d (.val (.int _ k)) =>
  match arrOf P t with
  | some (n, e) => match F3 P e, aggOf P e with
   | some (s, _, _), some true => (0 ≤ k ∧ k < n ∧ k.toNat * s + s ≤ cells.length, .agg (subV cells (k.toNat * s) s))
   | some (s, _, _), some false => (0 ≤ k ∧ k < n ∧ k.toNat * s < cells.length, cells.getD (k.toNat * s) n5)
   | _, _ => bad
  | none => bad
 | _, _ => bad

def bitI (op : BinOp) (k : IntKind) (x y : Int) : Int :=
 k.wrap (match op with
  | .and => (BitVec.ofInt k.bits x &&& BitVec.ofInt k.bits y).toNat
  | .or => (BitVec.ofInt k.bits x ||| BitVec.ofInt k.bits y).toNat
  | .xor => (BitVec.ofInt k.bits x ^^^ BitVec.ofInt k.bits y).toNat
  | _ => (BitVec.ofInt k.bits x &&& ~~~ BitVec.ofInt k.bits y).toNat)

inductive Lk | int | bool | str
def sizeT (P : Program) (t : TypeId) : Nat := match P.info? t with | some i => i.size | none => 0
def eqPlan (P : Program) : Nat → TypeId → Option (List (Nat × Lk))
 | 0, _ => none
 | d + 1, t =>
  match P.underlying t with
  | some (.int _) => some [(0, .int)]
  | some .bool => some [(0, .bool)]
  | some .string => some [(0, .str)]
  | some (.struct fs) => if P.stoodInHeld t = true then none else
   fs.toList.foldr (fun f r => match r with
    | none => none
    | some q => if f.name = "_" then some q else match eqPlan P d f.type with
     | none => none
     | some p => if p.all (fun x => decide (x.1 < sizeT P f.type)) = true then some (p.map (fun x => (f.offset + x.1, x.2)) ++ q) else none) (some [])
  | some (.array n e) => match eqPlan P d e with
   | none => none
   | some p => if p.all (fun x => decide (x.1 < sizeT P e)) = true then some ((List.range n).flatMap fun j => p.map fun x => (j * sizeT P e + x.1, x.2)) else none
  | _ => none
def eqPlanT (P : Program) (t : TypeId) : Option (List (Nat × Lk)) := match aggOf P t with | some true => if P.eqGuardType P.depth t = true then none else eqPlan P 20 t | _ => none
def leafE : Lk → V → V → Option Bool
 | .int, .d (.val (.int k a)), .d (.val (.int k' b)) => if k = k' then some (a == b) else none
 | .bool, .d (.val (.bool a)), .d (.val (.bool b)) => some (a == b)
 | .str, .d (.val (.string a)), .d (.val (.string b)) => some (a.toList == b.toList)
 | _, _, _ => none
def eqCells : List (Nat × Lk) → List V → List V → Option Bool
 | [], _, _ => some true
 | (o, k) :: r, xs, ys => match leafE k (xs.getD o .dead) (ys.getD o .dead), eqCells r xs ys with
  | some a, some b => some (a && b)
  | _, _ => none
def ptrB (op : BinOp) (b : Bool) : Prop × V :=
 match op with
 | .eql => (True, A0 b)
 | .neq => (True, A0 (!b))
 | _ => bad
def isPtrT (P : Program) (t : TypeId) : Bool := match P.underlying t with | some (.pointer _) => true | _ => false

def binF (P : Program) (op : BinOp) (t : TypeId) (x y : V) : Prop × V :=
 match x, y with
 | .d (.val (.int k a)), .d (.val (.int k' b)) =>
  match op with
  | .add => (k = k', vint k (k.wrap (a + b)))
  | .sub => (k = k', vint k (k.wrap (a - b)))
  | .mul => (k = k', vint k (k.wrap (a * b)))
  | .quo => (k = k' ∧ b ≠ 0, vint k (k.wrap (a.tdiv b)))
  | .rem => (k = k' ∧ b ≠ 0, vint k (a.tmod b))
  | .and | .or | .xor | .andNot => (k = k', vint k (bitI op k a b))
  | .shl => (0 ≤ b, vint k (k.wrap (a * 2 ^ (min b.toNat k.bits))))
  | .shr => (0 ≤ b, vint k (a.fdiv (2 ^ (min b.toNat k.bits))))
  | .eql => (k = k', A0 (a == b))
  | .neq => (k = k', A0 (a != b))
  | .lss => (k = k', A0 (a < b))
  | .leq => (k = k', A0 (a ≤ b))
  | .gtr => (k = k', A0 (a > b))
  | .geq => (k = k', A0 (a ≥ b))
 | .d (.val (.bool a)), .d (.val (.bool b)) =>
  match op with
  | .eql => (isBoolT P t = true, A0 (a == b))
  | .neq => (isBoolT P t = true, A0 (a != b))
  | _ => bad
 | .d (.val (.string a)), .d (.val (.string b)) =>
  match op with
  | .add => (a.size + b.size ≤ 9223372036854775807, .d (.val (.string (a ++ b))))
  | .eql => (True, A0 (a.toList == b.toList))
  | .neq => (True, A0 (!(a.toList == b.toList)))
  | _ => bad
 | .ptr _ _, .d (.val (.pointer none)) => (isPtrT P t = true ∧ (ptrB op false).1, (ptrB op false).2)
 | .d (.val (.pointer none)), .d (.val (.pointer none)) => (isPtrT P t = true ∧ (ptrB op true).1, (ptrB op true).2)
 | x, y => match aggV x, aggV y, eqPlanT P t with
  | some xs, some ys, some p => match eqCells p xs ys with
   | some b => ptrB op b
   | none => bad
  | _, _, _ => bad

def unF (op : UnOp) (x : V) : Prop × V :=
 match op, x with
 | .neg, .d (.val (.int k n)) => (True, vint k (k.wrap (0 - n)))
 | .not, .d (.val (.bool b)) => (True, A0 (!b))
 | _, _ => bad

def convF (P : Program) (s t : TypeId) (x : V) : Prop × V :=
 match x with
 | .d (.val (.int _ n)) => match kindOf P s, kindOf P t with
  | some _, some k => (True, vint k (k.wrap n))
  | _, _ => bad
 | _ => bad

def boolV : V → Option Bool
 | .d (.val (.bool p)) => some p
 | _ => none
def pickC (x : Bool) (a b : V) : Prop × V :=
 ((x = true → (boolV a).isSome = true) ∧ (x = false → (boolV b).isSome = true), A0 (if x = true then (boolV a).getD false else (boolV b).getD false))
def pickF (c a b : V) : Prop × V :=
 match c with
 | .d (.val (.bool x)) => pickC x (strip x a) (strip (!x) b)
 | _ => bad

def minF (x y : V) : Prop × V :=
 match x, y with
 | .d (.val (.int k a)), .d (.val (.int _ b)) => (True, vint k (if b < a then b else a))
 | _, _ => bad
def maxF (x y : V) : Prop × V :=
 match x, y with
 | .d (.val (.int k a)), .d (.val (.int _ b)) => (True, vint k (if a < b then b else a))
 | _, _ => bad

def min3F (x y z : V) : Prop × V := ((minF x y).1 ∧ (minF (minF x y).2 z).1, (minF (minF x y).2 z).2)
def max3F (x y z : V) : Prop × V := ((maxF x y).1 ∧ (maxF (maxF x y).2 z).1, (maxF (maxF x y).2 z).2)

def fillV (place : Nat → Option (Nat × Nat)) (cells : List V) : List (Nat × V) → Prop × List V
 | [] => (True, cells)
 | (i, v) :: rest =>
  match place i with
  | some (off, size) => let r := fillV place (setMany cells off (r6 v)) rest; (((r6 v).length = size ∧ off + size ≤ cells.length ∧ (r6 v).all oneV = true) ∧ r.1, r.2)
  | none => (False, cells)

def E7 (P : Program) (t : TypeId) : Option (List (Nat × Nat)) :=
 match P.underlying t with
 | some (.struct fs) => fs.toList.mapM fun f => (P.info? f.type).map fun i => (f.offset, i.size)
 | _ => none

def buildF (P : Program) (t : TypeId) (parts : List (Nat × V)) : Prop × V :=
 match F3 P t with
 | some (_, _, z) =>
  match E7 P t, arrOf P t with
  | some pl, _ => let r := fillV (fun i => pl[i]?) (z.map fun x => .d (.val x)) parts; (r.1, .agg r.2)
  | none, some (_, e) => match F3 P e with
   | some (s, _, _) => let r := fillV (fun i => some (i * s, s)) (z.map fun x => .d (.val x)) parts; (r.1, .agg r.2)
   | none => bad
  | _, _ => bad
 | none => bad

def nilF (x : V) : Prop × V :=
 match x with
 | .ptr .. | .d (.ref _) => (True, x)
 | _ => bad

def opF (P : Program) (env : Env) (op : Op) : Prop × V :=
 match op with
 | .move x | .assign x => (True, ev env x)
 | .pick c a b => pickF (ev env c) (ev env a) (ev env b)
 | .binOp op t x y _ => binF P op t (ev env x) (ev env y)
 | .unOp op _ x => unF op (ev env x)
 | .convert s t x => convF P s t (ev env x)
 | .fieldAddr s x f => F7 P s (ev env x) f
 | .indexAddr t x i => F5 P t (ev env x) (ev env i)
 | .load t x => loadF P env.objs t (ev env x)
 | .field t x f => fieldF P t (ev env x) f
 | .index t x i => indexF P t (ev env x) (ev env i)
 | .slice t x lo hi none => sliceF P t (ev env x) (lo.map (ev env)) (hi.map (ev env))
 | .slice t x (some lo) (some hi) (some mx) => slice3F P t (ev env x) (ev env lo) (ev env hi) (ev env mx)
 | .extract x k => extractF (ev env x) k
 | .nilCheck x => nilF (ev env x)
 | _ => bad
end Go.PW

namespace Go.PW
open Go.RowKit

section
variable {P : Program} {w : World} {S : Nat → Prop} {φ : Nat → Option Nat} {m : Nat}

theorem tyOf_spec' {t : TypeId} {s b : Nat} {z : List Value} (h : F3 P t = some (s, b, z)) : ∃ i zv, P.info? t = some i ∧ i.size = s ∧ i.bytes = b ∧ i.zero = some zv ∧ zv.cells.toList = z ∧ zv.cells.size = s := by
 unfold F3 at h
 cases hi : P.info? t with
 | none => simp [hi] at h
 | some i =>
  cases hz : i.zero with
  | none => simp [hi, hz] at h
  | some zv =>
   simp [hi, hz] at h
   obtain ⟨h0, h1, h2, h3⟩ := h
   exact ⟨i, zv, rfl, h1, h2, hz, by rw [h3], h0.trans h1⟩
theorem tyOf_spec {t : TypeId} {s b : Nat} {z : List Value} (h : F3 P t = some (s, b, z)) : ∃ i zv, P.info? t = some i ∧ i.size = s ∧ i.bytes = b ∧ i.zero = some zv ∧ zv.cells.toList = z := by
 obtain ⟨i, zv, h1, h2, h3, h4, h5, _⟩ := tyOf_spec' h
 exact ⟨i, zv, h1, h2, h3, h4, h5⟩

theorem l6 {t : TypeId} {s b : Nat} {z : List Value} (h : F3 P t = some (s, b, z)) (w : World) : (sizeOf t).run P w = .ok s w := by
 obtain ⟨i, zv, hi, hs, _⟩ := tyOf_spec h
 simp [sizeOf, typeInfo, hi, hs]

theorem z6 {t : TypeId} {b : Bool} (h : aggOf P t = some b) (w : World) : (isAgg t).run P w = .ok b w := by
 unfold aggOf at h
 cases hu : P.underlying t with
 | none => simp [hu] at h
 | some d =>
  unfold isAgg
  rw [Sem.run_bind, run_underlying hu w]
  cases d <;> simp_all

theorem o7 {t e : TypeId} (h : C4 P t = some e) : P.underlying t = some (.slice e) := by
 unfold C4 at h; split at h <;> simp_all
theorem arrOf_spec {t e : TypeId} {n : Nat} (h : arrOf P t = some (n, e)) : P.underlying t = some (.array n e) := by
 unfold arrOf at h; split at h <;> simp_all
theorem kindOf_spec {t : TypeId} {k : IntKind} (h : kindOf P t = some k) : P.underlying t = some (.int k) := by
 unfold kindOf at h; split at h <;> simp_all
theorem isBoolT_spec {t : TypeId} (h : isBoolT P t = true) : P.underlying t = some .bool := by
 unfold isBoolT at h; split at h <;> simp_all
theorem isStrT_spec {t : TypeId} (h : isStrT P t = true) : P.underlying t = some .string := by
 unfold isStrT at h; split at h <;> simp_all
theorem fldOff_spec {s f off : Nat} {ft : TypeId} (h : o4 P s f = some (off, ft)) : ∃ fs fd, P.underlying s = some (.struct fs) ∧ fs[f]? = some fd ∧ fd.offset = off ∧ fd.type = ft := by
 unfold o4 at h
 split at h
 ·
  rename_i fs hu
  cases hf : fs[f]? with
  | none => simp [hf] at h
  | some fd => simp [hf] at h; exact ⟨fs, fd, hu, hf, h.1, h.2⟩
 · cases h

theorem RepV.repD {x : D} {v : Value} (h : RepV w S φ m (.d x) v) : RepD w S x v := by simpa [RepV] using h
theorem RepD.repV {x : D} {v : Value} (h : RepD w S x v) : RepV w S φ m (.d x) v := by simpa [RepV] using h

theorem RepAll.repVs : ∀ {ds : List D} {vs : List Value}, RepAll w S ds vs → RepVs w S φ m (ds.map .d) vs
 | [], vs, h => by simpa [RepAll, RepVs] using h
 | d :: ds, vs, h => by
  simp only [RepAll] at h
  obtain ⟨v, vs', rfl, hr, ht⟩ := h
  simp only [List.map_cons, RepVs]
  exact ⟨v, vs', rfl, hr.repV, ht.repVs⟩

theorem RepVs.repAll : ∀ {ds : List D} {vs : List Value}, RepVs w S φ m (ds.map .d) vs → RepAll w S ds vs
 | [], vs, h => by simpa [RepAll, RepVs] using h
 | d :: ds, vs, h => by
  simp only [List.map_cons, RepVs] at h
  obtain ⟨v, vs', rfl, hr, ht⟩ := h
  simp only [RepAll]
  exact ⟨v, vs', rfl, hr.repD, ht.repAll⟩

theorem RepAll.vals : ∀ (xs : List Value), RepAll w S (xs.map .val) xs
 | [] => by simp [RepAll]
 | x :: xs => by simp only [List.map_cons, RepAll]; exact ⟨x, xs, rfl, by simp [RepD], RepAll.vals xs⟩

theorem RepVs.vals (xs : List Value) : RepVs w S φ m (xs.map fun x => .d (.val x)) xs := by
 have := (RepAll.vals (w := w) (S := S) xs).repVs (φ := φ) (m := m)
 simpa [List.map_map, Function.comp_def] using this

theorem constV_rep (v : Value) : RepV w S φ m (constV v) v := by
 unfold constV
 split
 ·
  rename_i cs
  simp only [RepV]
  exact ⟨cs.toList, by simp, RepVs.vals _⟩
 · simp [RepV, RepD]

theorem RepCells.vals : ∀ (ds : List D) (b o : Nat), RepCells w S ds b o → ∃ vs, RepAll w S ds vs ∧ ∀ j v, vs[j]? = some v → w.cell? ⟨b, o + j, none⟩ = some v
 | [], b, o, _ => ⟨[], by simp [RepAll], by simp⟩
 | d :: ds, b, o, h => by
  simp only [RepCells] at h
  obtain ⟨⟨_, v, hc, hr⟩, ht⟩ := h
  obtain ⟨vs, h1, h2⟩ := RepCells.vals ds b (o + 1) ht
  refine ⟨v :: vs, by simp only [RepAll]; exact ⟨v, vs, rfl, hr, h1⟩, fun j u hu => ?_⟩
  cases j with
  | zero => simp at hu; subst hu; simpa using hc
  | succ j => have := h2 j u (by simpa using hu); rwa [show o + (j + 1) = o + 1 + j by omega]

theorem subV_length (cells : List V) (k n : Nat) : (subV cells k n).length = n := by simp [subV]
theorem subV_getD (cells : List V) (k n j : Nat) (h : j < n) (x : V) : (subV cells k n).getD j x = cells.getD (k + j) n5 := by
 simp [subV, List.getD_eq_getElem?_getD, h]

theorem getD_in {α : Type} {l : List α} {k : Nat} (h : k < l.length) (x y : α) : l.getD k x = l.getD k y := by
 simp [List.getD_eq_getElem?_getD, h]

theorem RepVs.sub {ds : List V} {vs : List Value} (h : RepVs w S φ m ds vs) (k n : Nat) (hk : k + n ≤ ds.length) : RepVs w S φ m (subV ds k n) ((vs.drop k).take n) := by
 have hl := RepVs.length ds vs h
 refine RepVs.intro _ _ (by simp [subV_length]; omega) fun j hj v hv => ?_
 rw [subV_length] at hj
 rw [subV_getD _ _ _ _ hj, getD_in (by omega) n5 .dead]
 obtain ⟨u, hu, hr⟩ := RepVs.get ds vs h (k + j) (by omega)
 have : v = u := by
  rw [List.getElem?_take, if_pos hj, List.getElem?_drop] at hv
  rw [hv] at hu; exact Option.some.inj hu
 subst this
 exact hr

theorem RepVs.one {ds : List V} {vs : List Value} (h : RepVs w S φ m ds vs) (k : Nat) (hk : k < ds.length) : ∃ v, vs[k]? = some v ∧ RepV w S φ m (ds.getD k n5) v := by
 obtain ⟨v, hv, hr⟩ := RepVs.get ds vs h k hk
 exact ⟨v, hv, by rw [getD_in hk n5 .dead]; exact hr⟩

theorem p4 {g j : Nat} {cur : Array Value} {e : TypeId} {fr : Nat × Nat} (hg : w.heap[g]? = some (.cells cur e fr)) : w.cell? ⟨g, j, none⟩ = cur[j]? := by
 simp [World.cell?, hg]

theorem RepCells.drop : ∀ (ds : List D) (b o k : Nat), RepCells w S ds b o → RepCells w S (ds.drop k) b (o + k)
 | ds, b, o, 0, h => by simpa using h
 | [], b, o, k + 1, _ => by simp [RepCells]
 | d :: ds, b, o, k + 1, h => by
  simp only [RepCells] at h
  have := RepCells.drop ds b (o + 1) k h.2
  simpa [show o + 1 + k = o + (k + 1) by omega] using this

theorem RepCells.take : ∀ (ds : List D) (b o k : Nat), RepCells w S ds b o → RepCells w S (ds.take k) b o
 | ds, b, o, 0, h => by simp [RepCells]
 | [], b, o, k + 1, _ => by simp [RepCells]
 | d :: ds, b, o, k + 1, h => by
  simp only [List.take_succ_cons, RepCells] at h ⊢
  exact ⟨h.1, RepCells.take ds b (o + 1) k h.2⟩

theorem strip_rep {g : Bool} {v : V} {x : Value} (hg : g = true) (h : RepV w S φ m v x) : RepV w S φ m (strip g v) x := by
 subst hg
 cases v with
 | guarded c r =>
  simp only [strip]
  split
  ·
   rename_i hc
   simp only [RepV] at h
   exact h.1 (by simpa using hc)
  · simp [RepV]
 | _ => simpa [strip] using h

theorem oneV_cell {v : V} {x : Value} (h : RepV w S φ m v x) (h1 : oneV v = true) : x.oneCell' = true := by
 cases v with
 | d y =>
  simp only [RepV] at h
  cases y with
  | val z => simp only [RepD] at h; subst h; simpa [oneV] using h1
  | list n cells => simp only [RepD] at h; obtain ⟨a, cap, rfl, _⟩ := h; rfl
  | ref cells => simp only [RepD] at h; obtain ⟨b, o, rfl, _⟩ := h; rfl
  | clo f caps => simp only [RepD] at h; obtain ⟨vs, rfl, _⟩ := h; rfl
  | agg ds => simp [oneV] at h1
  | tup ds => simp [oneV] at h1
 | own i off n sz => simp only [RepV] at h; obtain ⟨_, ⟨a, rfl, _, _⟩ | ⟨g, cap, cur, e, _, rfl, _⟩⟩ := h <;> rfl
 | ptr i off => simp only [RepV] at h; obtain ⟨_, g, _, rfl⟩ := h; rfl
 | clo f caps => simp only [RepV] at h; obtain ⟨vs, rfl, _⟩ := h; rfl
 | agg cells => simp [oneV] at h1
 | tup cells => simp [oneV] at h1
 | guarded c r => simp [oneV] at h1
 | dead => simp [oneV] at h1
 | slf i => simp [oneV] at h1
 | emp => simp [oneV] at h1
 | bnd f x => simp [oneV] at h1

theorem cells_of_one {x : Value} (h : x.oneCell' = true) : x.cells = #[x] := by
 cases x <;> simp_all [Value.oneCell', Value.cells]

theorem RepVs.allOne : ∀ {ds : List V} {vs : List Value}, RepVs w S φ m ds vs → ds.all oneV = true → ∀ u ∈ vs, u.oneCell' = true
 | [], vs, h, _ => by simp only [RepVs] at h; simp [h]
 | d :: ds, vs, h, h1 => by
  simp only [RepVs] at h
  obtain ⟨v, vs', rfl, hr, ht⟩ := h
  simp only [List.all_cons, Bool.and_eq_true] at h1
  intro u hu
  rcases List.mem_cons.1 hu with rfl | hu
  · exact oneV_cell hr h1.1
  · exact RepVs.allOne ht h1.2 u hu

theorem cellsV_rep {v : V} {x : Value} (h : RepV w S φ m v x) (h1 : (r6 v).all oneV = true) : RepVs w S φ m (r6 v) x.cells.toList ∧ ∀ u ∈ x.cells.toList, u.oneCell' = true := by
 have gen : ∀ y : V, r6 y = [y] → RepV w S φ m y x → (r6 y).all oneV = true → RepVs w S φ m (r6 y) x.cells.toList := by
  intro y hy hr ha
  rw [hy] at ha ⊢
  rw [cells_of_one (oneV_cell hr (by simpa using ha))]
  simp only [RepVs]
  exact ⟨x, [], rfl, hr, rfl⟩
 have key : RepVs w S φ m (r6 v) x.cells.toList := by
  cases v with
  | agg vs => simp only [RepV] at h; obtain ⟨us, rfl, hr⟩ := h; simpa [r6, Value.cells] using hr
  | d y =>
   cases y with
   | agg ds => simp only [RepV, RepD] at h; obtain ⟨us, rfl, hr⟩ := h; simpa [r6, Value.cells] using hr.repVs
   | _ => exact gen _ rfl h h1
  | _ => exact gen _ rfl h h1
 exact ⟨key, key.allOne h1⟩

theorem loadF_sound {objs : List Ob} (ho : ∀ i ob, objs[i]? = some ob → ObRep w S φ m i ob) {t : TypeId} {x : V} {v : Value} (hx : RepV w S φ m x v) (hc : (loadF P objs t x).1) :
  ∃ u, (Instr.loadAt t v).run P w = .ok u w ∧ RepV w S φ m (loadF P objs t x).2 u := by
 have hcells : ∀ i g, φ i = some g → 0 < (cellsOf objs i).length → ∃ cur e vals rest, w.heap[g]? = some (.cells cur e (0, 0)) ∧ cur.toList = vals ++ rest ∧ RepVs w S φ m (cellsOf objs i) vals := by
  intro i g hg hl
  unfold cellsOf at hl ⊢
  cases hi : objs[i]? with
  | none => simp [hi] at hl
  | some ob =>
   simp only [hi] at hl ⊢
   rcases ho i ob hi with ⟨_, he⟩ | ⟨g', cur, vals, rest, hg', hh, hcur, hv⟩
   · simp [he] at hl
   · rw [hg] at hg'; cases hg'; exact ⟨cur, _, vals, rest, hh, hcur, hv⟩
 unfold loadF at hc ⊢
 split at hc
 ·
  -- a whole aggregate, read alone
  rename_i s b z cells ht ha
  simp only [RepV, RepD] at hx
  obtain ⟨bl, o, rfl, hr⟩ := hx
  obtain ⟨vs, h1, h2⟩ := RepCells.vals _ _ _ (hr.sub 0 s (by simpa using hc))
  have hlen : vs.length = s := by have := RepAll.length _ _ h1; simpa using this
  have hl := run_loadCells_list (P := P) w ⟨bl, o, none⟩ vs (fun j v hv => by rw [Addr.add_lit]; have := h2 j v hv; simpa using this)
  rw [hlen] at hl
  refine ⟨.agg vs.toArray, ?_, ?_⟩
  · simp [Instr.loadAt, Instr.sureAddr, loadVar, z6 ha, l6 ht, hl]
  · simp only [RepV]; exact ⟨vs, rfl, h1.repVs⟩
 ·
  rename_i s b z i off ht ha
  simp only [RepV] at hx
  obtain ⟨hi, g, hg, rfl⟩ := hx
  by_cases h0 : 0 < (cellsOf objs i).length
  ·
   obtain ⟨cur, e, vals, rest, hh, hcur, hv⟩ := hcells i g hg h0
   have hvl := RepVs.length _ _ hv
   have hsub := hv.sub off s hc
   have hlen : ((vals.drop off).take s).length = s := by simp; omega
   have hl := run_loadCells_list (P := P) w ⟨g, off, none⟩ ((vals.drop off).take s) (fun j v hjv => by
    rw [Addr.add_lit, p4 hh, ← Array.getElem?_toList, hcur]
    have hj : j < s := by
     have := (List.getElem?_eq_some_iff.1 hjv).1
     omega
    rw [List.getElem?_take, if_pos hj, List.getElem?_drop] at hjv
    rw [List.getElem?_append_left (by omega)]
    exact hjv)
   rw [hlen] at hl
   refine ⟨.agg ((vals.drop off).take s).toArray, ?_, ?_⟩
   · simp [Instr.loadAt, Instr.sureAddr, loadVar, z6 ha, l6 ht, hl]
   · simp only [RepV]; exact ⟨_, rfl, hsub⟩
  ·
   have hs0 : s = 0 := by simp only at hc; omega
   subst hs0
   refine ⟨.agg #[], ?_, ?_⟩
   · simp [Instr.loadAt, Instr.sureAddr, loadVar, z6 ha, l6 ht, loadCells, loadCellsFrom]
   · simp [RepV, subV, RepVs]
 ·
  rename_i x' cells ht ha
  simp only [RepV, RepD] at hx
  obtain ⟨bl, o, rfl, hr⟩ := hx
  obtain ⟨_, u, hu, hru⟩ := RepCells.get cells bl o hr 0 hc
  refine ⟨u, ?_, by simpa [RepV] using hru⟩
  have hu' : w.cell? ⟨bl, o, none⟩ = some u := by simpa using hu
  simp [Instr.loadAt, Instr.sureAddr, loadVar, z6 ha, hu']
 ·
  rename_i x' i off ht ha
  simp only [RepV] at hx
  obtain ⟨hi, g, hg, rfl⟩ := hx
  obtain ⟨cur, e, vals, rest, hh, hcur, hv⟩ := hcells i g hg (by simp only at hc; omega)
  have hvl := RepVs.length _ _ hv
  obtain ⟨u, hu, hru⟩ := hv.one off hc
  refine ⟨u, ?_, hru⟩
  have hu' : w.cell? ⟨g, off, none⟩ = some u := by
   rw [p4 hh, ← Array.getElem?_toList, hcur, List.getElem?_append_left (by simp only at hc; omega)]; exact hu
  simp [Instr.loadAt, Instr.sureAddr, loadVar, z6 ha, hu']
 · exact hc.elim

theorem fieldAddrF_sound {s f : Nat} {x : V} {v : Value} (hx : RepV w S φ m x v) (hc : (F7 P s x f).1) :
  ∃ u, (Instr.fieldAt s v f).run P w = .ok u w ∧ RepV w S φ m (F7 P s x f).2 u := by
 unfold F7 at hc ⊢
 split at hc
 ·
  rename_i off ft hf
  obtain ⟨fs, fd, hu, hfd, ho, hft⟩ := fldOff_spec hf
  subst hft
  split at hc
  ·
   rename_i sz b z i o ht
   simp only [RepV] at hx
   obtain ⟨hi, g, hg, rfl⟩ := hx
   refine ⟨.pointer (some ⟨g, o + off, none⟩), ?_, by simp only [RepV]; exact ⟨hi, g, hg, rfl⟩⟩
   have hz : ¬ sz = 0 := hc
   simp [Instr.fieldAt, run_underlying hu, hfd, Instr.sureAddr, fieldPlace, l6 ht, hz, ho, Addr.add_lit]
  ·
   rename_i sz b z cells ht
   simp only [RepV, RepD] at hx
   obtain ⟨b, o, rfl, hr⟩ := hx
   refine ⟨.pointer (some ⟨b, o + off, none⟩), ?_, by simp only [RepV, RepD]; exact ⟨b, o + off, rfl, RepCells.drop _ _ _ _ hr⟩⟩
   have hz : ¬ sz = 0 := hc
   simp [Instr.fieldAt, run_underlying hu, hfd, Instr.sureAddr, fieldPlace, l6 ht, hz, ho, Addr.add_lit]
  · exact hc.elim
 · exact hc.elim

theorem indexAddrF_sound {t : TypeId} {x ix : V} {v u : Value} (hx : RepV w S φ m x v) (hi : RepV w S φ m ix u) (hc : (F5 P t x ix).1) :
  ∃ y, (Instr.indexAt t v u).run P w = .ok y w ∧ RepV w S φ m (F5 P t x ix).2 y := by
 unfold F5 at hc ⊢
 split at hc
 ·
  rename_i kk k
  simp only [RepV, RepD] at hi
  subst hi
  split at hc
  ·
   rename_i e _ he
   have hu := o7 he
   split at hc
   ·
    rename_i s b z i off n sz ht
    obtain ⟨h0, h1, rfl⟩ := hc
    simp only [RepV] at hx
    obtain ⟨hi, ⟨a, rfl, rfl, _⟩ | ⟨g, cap, cur, el, hg, rfl, _⟩⟩ := hx
    · simp at h1; omega
    ·
     refine ⟨.pointer (some ⟨g, off + k.toNat * sz, none⟩), ?_, by simp only [RepV]; exact ⟨hi, g, hg, rfl⟩⟩
     simp [Instr.indexAt, asIntOf, run_underlying hu, h0, h1, l6 ht, Addr.add_lit]
   ·
    rename_i s b z n cells ht
    obtain ⟨h0, h1, h2, h3⟩ := hc
    simp only [RepV, RepD] at hx
    obtain ⟨a, cap, rfl, _, hcl⟩ := hx
    rcases hcl with rfl | ⟨bl, o, rfl, hr⟩
    · simp at h2; omega
    ·
     refine ⟨.pointer (some ⟨bl, o + k.toNat * s, none⟩), ?_, ?_⟩
     · simp [Instr.indexAt, asIntOf, run_underlying hu, h0, h1, l6 ht, Addr.add_lit]
     · simp only [RepV, RepD]; exact ⟨bl, _, rfl, hr.sub _ _ h2⟩
   · exact hc.elim
  ·
   rename_i n e he ha
   have hu := arrOf_spec ha
   split at hc
   ·
    rename_i s b z i off ht
    obtain ⟨h0, h1⟩ := hc
    simp only [RepV] at hx
    obtain ⟨hi, g, hg, rfl⟩ := hx
    refine ⟨.pointer (some ⟨g, off + k.toNat * s, none⟩), ?_, by simp only [RepV]; exact ⟨hi, g, hg, rfl⟩⟩
    simp [Instr.indexAt, asIntOf, run_underlying hu, Instr.sureAddr, h0, h1, l6 ht, Addr.add_lit]
   ·
    rename_i s b z cells ht
    obtain ⟨h0, h1, h2, h3⟩ := hc
    simp only [RepV, RepD] at hx
    obtain ⟨bl, o, rfl, hr⟩ := hx
    refine ⟨.pointer (some ⟨bl, o + k.toNat * s, none⟩), ?_, ?_⟩
    · simp [Instr.indexAt, asIntOf, run_underlying hu, Instr.sureAddr, h0, h1, l6 ht, Addr.add_lit]
    · simp only [RepV, RepD]; exact ⟨bl, _, rfl, hr.sub _ _ h2⟩
   · exact hc.elim
  · exact hc.elim
 · exact hc.elim
end
end Go.PW
