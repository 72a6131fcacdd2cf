import Derived.Test.YtklejiafioalnaaNsH
set_option linter.all false
namespace Go.Sh
open Go.PW
noncomputable section
def base_CopyInts (N : Nat) (l : List Int) : Option (List Int) :=
  chk (([] : List Int).length + l.length ≤ 1000000000) <|
  some (([] : List Int) ++ l)

def plan_unless (N : Nat) (ok : Bool) (e : Int) : Option Int :=
  br (ok) (
  some (0 : Int)) (
  some e)

def plan_first.b1 (N : Nat) (l : List Int) (K_ : Unit → Option Int) (rec : Int → Option Int) : Int → Option Int := fun t7 =>
  br (decide (t7 < (l.length : Int))) (
  chk (0 ≤ t7 ∧ t7 < (l.length : Int)) <|
  br (((l.getD t7.toNat 0) != (0 : Int))) (
  some (l.getD t7.toNat 0)) (
  rec (w64 (t7 + (1 : Int))))) (
  K_ ())
def plan_first (N : Nat) (l : List Int) : Option Int :=
  jn (τ := Unit) (fun (_ : Unit) =>
    some (0 : Int)) fun K_ =>
  rds (plan_first.b1 N l K_) N (0 : Int)

def slices_IndexFunc_ii.b1 (N : Nat) (s : List Int) (f : Int → Option Bool) (K_ : Unit → Option Int) (rec : Int → Option Int) : Int → Option Int := fun t8 =>
  br (decide (t8 < (s.length : Int))) (
  chk (0 ≤ t8 ∧ t8 < (s.length : Int)) <|
  bnd (f (s.getD t8.toNat 0)) fun x1 =>
  br (x1) (
  some t8) (
  rec (w64 (t8 + (1 : Int))))) (
  K_ ())
def slices_IndexFunc_ii (N : Nat) (s : List Int) (f : Int → Option Bool) : Option Int :=
  jn (τ := Unit) (fun (_ : Unit) =>
    some (-1 : Int)) fun K_ =>
  rds (slices_IndexFunc_ii.b1 N s f K_) N (0 : Int)

def plan_within (N : Nat) (n : Int) (lo : Int) (hi : Int) : Option Bool :=
  some ((decide (lo ≤ n)) && (decide (n ≤ hi)))

def plan_isIdentity (N : Nat) (n : Int) : Option Bool :=
  bnd (plan_within N n (0 : Int) (1007 : Int)) fun x1 =>
  some x1

def base_Within (N : Nat) (n : Int) (lo : Int) (hi : Int) : Option Bool :=
  some ((decide (lo ≤ n)) && (decide (n ≤ hi)))

def ref09_IdentityErr (N : Nat) (n : Int) : Option Int :=
  bnd (base_Within N n (0 : Int) (1007 : Int)) fun x1 =>
  br (!x1) (
  some (2 : Int)) (
  some (0 : Int))

def law09_pairs (N : Nat) (Zp : Int) (Zq : List (Int × Int)) : Option Bool :=
  some ((decide ((Zq.length : Int) ≤ (30 : Int))) || ((decide ((Zq.length : Int) > (64 : Int))) && (decide ((Zq.length : Int) ≤ w64 ((64 : Int) + (2 : Int))))))

def ref09_CopyNet (N : Nat) (Zp : Int) (Zq : List (Int × Int)) : Option (Int × (List (Int × Int))) :=
  chk (Zq.length ≤ 1000000000) <|
  some (Zp, Zq)

def plan_CheckNet_1 (N : Nat) (c : Int) (Z2 : Int) (Z6 : List (Int × Int)) : Option Bool :=
  bnd (plan_within N c (0 : Int) (w64 (Z2 - (1 : Int)))) fun x1 =>
  some x1

def cmp_isNaN_int (N : Nat) (x : Int) : Option Bool :=
  some (x != x)

def cmp_Compare_int (N : Nat) (x : Int) (y : Int) : Option Int :=
  bnd (cmp_isNaN_int N x) fun x1 =>
  bnd (cmp_isNaN_int N y) fun x2 =>
  br (x1) (
  br (x2) (
  some (0 : Int)) (
  some (-1 : Int))) (
  br (x2) (
  some (1 : Int)) (
  br (decide (x < y)) (
  some (-1 : Int)) (
  br (decide (x > y)) (
  some (1 : Int)) (
  some (0 : Int)))))

def slices_Compare_ii.b1 (N : Nat) (s1 : List Int) (s2 : List Int) (K_ : Unit → Option Int) (rec : Int → Option Int) : Int → Option Int := fun t11 =>
  br (decide (t11 < (s1.length : Int))) (
  chk (0 ≤ t11 ∧ t11 < (s1.length : Int)) <|
  br (decide (t11 ≥ (s2.length : Int))) (
  some (1 : Int)) (
  chk (0 ≤ t11 ∧ t11 < (s2.length : Int)) <|
  bnd (cmp_Compare_int N (s1.getD t11.toNat 0) (s2.getD t11.toNat 0)) fun x1 =>
  br ((x1 != (0 : Int))) (
  some x1) (
  rec (w64 (t11 + (1 : Int)))))) (
  K_ ())
def slices_Compare_ii (N : Nat) (s1 : List Int) (s2 : List Int) : Option Int :=
  jn (τ := Unit) (fun (_ : Unit) =>
    br (decide ((s1.length : Int) < (s2.length : Int))) (
    some (-1 : Int)) (
    some (0 : Int))) fun K_ =>
  rds (slices_Compare_ii.b1 N s1 s2 K_) N (0 : Int)

def plan_CheckNet.b1 (N : Nat) (Zp : Int) (Zq : List (Int × Int)) (K_ : Unit → Option (Int × Int)) (rec : Int → Option (Int × Int)) : Int → Option (Int × Int) := fun t28 =>
  br (decide (t28 < (Zq.length : Int))) (
  chk (0 ≤ t28 ∧ t28 < (Zq.length : Int)) <|
  chk ((!(t28 == (0 : Int))) = true → 0 ≤ (if (0 : Int) < w64 (t28 - (1 : Int)) then w64 (t28 - (1 : Int)) else (0 : Int)) ∧ (if (0 : Int) < w64 (t28 - (1 : Int)) then w64 (t28 - (1 : Int)) else (0 : Int)) < (Zq.length : Int)) <|
  bnd (grd (!(t28 == (0 : Int))) 0 (slices_Compare_ii N ([(Zq.getD t28.toNat default).1, (Zq.getD t28.toNat default).2] : List Int) ([(Zq.getD ((if (0 : Int) < w64 (t28 - (1 : Int)) then w64 (t28 - (1 : Int)) else (0 : Int)).toNat) default).1, (Zq.getD ((if (0 : Int) < w64 (t28 - (1 : Int)) then w64 (t28 - (1 : Int)) else (0 : Int)).toNat) default).2] : List Int))) fun x5 =>
  bnd (plan_CheckNet_1 N ((Zq.getD t28.toNat default).1) Zp Zq) fun x6 =>
  bnd (grd x6 false (plan_CheckNet_1 N ((Zq.getD t28.toNat default).2) Zp Zq)) fun x7 =>
  bnd (plan_unless N (x6 && x7) (6 : Int)) fun x8 =>
  bnd (plan_unless N ((decide ((Zq.getD t28.toNat default).1 < (Zq.getD t28.toNat default).2)) && ((t28 == (0 : Int)) || (decide (x5 > (0 : Int))))) (9 : Int)) fun x9 =>
  bnd (plan_first N ([x8, x9] : List Int)) fun x10 =>
  br ((x10 != (0 : Int))) (
  some (t28, x10)) (
  rec (w64 (t28 + (1 : Int))))) (
  K_ ())
def plan_CheckNet (N : Nat) (Zp : Int) (Zq : List (Int × Int)) : Option (Int × Int) :=
  bnd (plan_within N Zp (1 : Int) (8 : Int)) fun x1 =>
  bnd (plan_unless N x1 (2 : Int)) fun x2 =>
  bnd (plan_unless N (decide ((Zq.length : Int) ≤ (64 : Int))) (8 : Int)) fun x3 =>
  bnd (plan_first N ([x2, x3] : List Int)) fun x4 =>
  br ((x4 != (0 : Int))) (
  some ((0 : Int), x4)) (
  jn (τ := Unit) (fun (_ : Unit) =>
    some ((0 : Int), (0 : Int))) fun K_ =>
  rds (plan_CheckNet.b1 N Zp Zq K_) N (0 : Int))

def base_Before.b1 (N : Nat) (a : List Int) (b : List Int) (K_ : Unit → Option Bool) (rec : Int → Option Bool) : Int → Option Bool := fun i =>
  br (((decide (i < (a.length : Int))) && (decide (i < (b.length : Int))))) (
  chk (0 ≤ i ∧ i < (a.length : Int)) <|
  chk (0 ≤ i ∧ i < (b.length : Int)) <|
  br (((a.getD i.toNat 0) != (b.getD i.toNat 0))) (
  chk (0 ≤ i ∧ i < (a.length : Int)) <|
  chk (0 ≤ i ∧ i < (b.length : Int)) <|
  some (decide ((a.getD i.toNat 0) < (b.getD i.toNat 0)))) (
  rec (w64 (i + (1 : Int))))) (
  K_ ())
def base_Before (N : Nat) (a : List Int) (b : List Int) : Option Bool :=
  jn (τ := Unit) (fun (_ : Unit) =>
    some (decide ((a.length : Int) < (b.length : Int)))) fun K_ =>
  rds (base_Before.b1 N a b K_) N (0 : Int)

def ref09_CheckNet.b1 (N : Nat) (Zp : Int) (Zq : List (Int × Int)) (K_ : Unit → Option (Int × Int)) (rec : Int → Option (Int × Int)) : Int → Option (Int × Int) := fun i =>
  br (decide (i < (Zq.length : Int))) (
  chk (0 ≤ i ∧ i < (Zq.length : Int)) <|
  chk (0 ≤ i ∧ i < (Zq.length : Int)) <|
  bnd (base_Within N ((Zq.getD i.toNat default).1) (0 : Int) (w64 (Zp - (1 : Int)))) fun x2 =>
  bnd (grd x2 false (base_Within N ((Zq.getD i.toNat default).2) (0 : Int) (w64 (Zp - (1 : Int))))) fun x3 =>
  br (((!x2) || (!x3))) (
  some (i, (6 : Int))) (
  chk (((!(decide ((Zq.getD i.toNat default).1 ≥ (Zq.getD i.toNat default).2))) && (decide (i > (0 : Int)))) = true → 0 ≤ w64 (i - (1 : Int)) ∧ w64 (i - (1 : Int)) < (Zq.length : Int)) <|
  chk (((!(decide ((Zq.getD i.toNat default).1 ≥ (Zq.getD i.toNat default).2))) && (decide (i > (0 : Int)))) = true → 0 ≤ i ∧ i < (Zq.length : Int)) <|
  bnd (grd ((!(decide ((Zq.getD i.toNat default).1 ≥ (Zq.getD i.toNat default).2))) && (decide (i > (0 : Int)))) false (base_Before N ([(Zq.getD ((w64 (i - (1 : Int))).toNat) default).1, (Zq.getD ((w64 (i - (1 : Int))).toNat) default).2] : List Int) ([(Zq.getD i.toNat default).1, (Zq.getD i.toNat default).2] : List Int))) fun x4 =>
  br (((decide ((Zq.getD i.toNat default).1 ≥ (Zq.getD i.toNat default).2)) || ((decide (i > (0 : Int))) && (!x4)))) (
  some (i, (9 : Int))) (
  rec (w64 (i + (1 : Int)))))) (
  K_ ())
def ref09_CheckNet (N : Nat) (Zp : Int) (Zq : List (Int × Int)) : Option (Int × Int) :=
  bnd (base_Within N Zp (1 : Int) (8 : Int)) fun x1 =>
  br (!x1) (
  some ((0 : Int), (2 : Int))) (
  br (decide ((Zq.length : Int) > (64 : Int))) (
  some ((0 : Int), (8 : Int))) (
  jn (τ := Unit) (fun (_ : Unit) =>
    some ((0 : Int), (0 : Int))) fun K_ =>
  rds (ref09_CheckNet.b1 N Zp Zq K_) N (0 : Int)))

def ref09_neighbours.b1 (N : Nat) (Zq : List (Int × Int)) (a : Int) (b : Int) (K_ : Unit → Option Bool) (rec : Int → Option Bool) : Int → Option Bool := fun i =>
  br (decide (i < (Zq.length : Int))) (
  chk (0 ≤ i ∧ i < (Zq.length : Int)) <|
  br ((((Zq.getD i.toNat default).1 == (if b < a then b else a)) && ((Zq.getD i.toNat default).2 == (if a < b then b else a)))) (
  some true) (
  rec (w64 (i + (1 : Int))))) (
  K_ ())
def ref09_neighbours (N : Nat) (Zp : Int) (Zq : List (Int × Int)) (a : Int) (b : Int) : Option Bool :=
  jn (τ := Unit) (fun (_ : Unit) =>
    some false) fun K_ =>
  rds (ref09_neighbours.b1 N Zq a b K_) N (0 : Int)

def ref09_IsNear.b1 (N : Nat) (Zp : Int) (Zq : List (Int × Int)) (a : Int) (b : Int) (K_ : Unit → Option Bool) (rec : Int → Option Bool) : Int → Option Bool := fun k =>
  br (decide (k < Zp)) (
  bnd (ref09_neighbours N Zp Zq a k) fun x2 =>
  bnd (grd x2 false (ref09_neighbours N Zp Zq k b)) fun x3 =>
  br ((x2 && x3)) (
  some true) (
  rec (w64 (k + (1 : Int))))) (
  K_ ())
def ref09_IsNear (N : Nat) (Zp : Int) (Zq : List (Int × Int)) (a : Int) (b : Int) : Option Bool :=
  br ((a == b)) (
  some false) (
  bnd (ref09_neighbours N Zp Zq a b) fun x1 =>
  br (x1) (
  some true) (
  jn (τ := Unit) (fun (_ : Unit) =>
    some false) fun K_ =>
  rds (ref09_IsNear.b1 N Zp Zq a b K_) N (0 : Int)))

def base_Ints.b1 (N : Nat) (a : List Int) (b : List Int) (K_ : Unit → Option Bool) (rec : Int → Option Bool) : Int → Option Bool := fun i =>
  br (decide (i < (a.length : Int))) (
  chk (0 ≤ i ∧ i < (a.length : Int)) <|
  chk (0 ≤ i ∧ i < (b.length : Int)) <|
  br (((a.getD i.toNat 0) != (b.getD i.toNat 0))) (
  some false) (
  rec (w64 (i + (1 : Int))))) (
  K_ ())
def base_Ints (N : Nat) (a : List Int) (b : List Int) : Option Bool :=
  br (((a.length : Int) != (b.length : Int))) (
  some false) (
  jn (τ := Unit) (fun (_ : Unit) =>
    some true) fun K_ =>
  rds (base_Ints.b1 N a b K_) N (0 : Int))

def ref09_NetErr (N : Nat) (Zp : Int) (Zq : List (Int × Int)) : Option Int :=
  bnd (ref09_CheckNet N Zp Zq) fun (x1, x11) =>
  some x11

def plan_web_listErr_1 (N : Nat) (n : Int) (a1 : Int → Option Bool) : Option Bool :=
  bnd (a1 n) fun x1 =>
  some (!x1)

def slices_ContainsFunc_ii (N : Nat) (s : List Int) (f : Int → Option Bool) : Option Bool :=
  bnd (slices_IndexFunc_ii N s f) fun x1 =>
  some (decide (x1 ≥ (0 : Int)))

def plan_web_listErr (N : Nat) (w_cells : Int) (w_near : List Bool) (l : List Int) (right : Int → Option Bool) : Option Int :=
  bnd (slices_ContainsFunc_ii N l (fun y0 => plan_web_listErr_1 N y0 right)) fun x1 =>
  bnd (plan_unless N ((l.length : Int) == w_cells) (10 : Int)) fun x2 =>
  bnd (plan_unless N (!x1) (2 : Int)) fun x3 =>
  bnd (plan_first N ([x2, x3] : List Int)) fun x4 =>
  some x4

def plan_web_firstPair.b2 (N : Nat) (w_cells : Int) (w_near : List Bool) (is_ : Int → Int → Option Bool) (t10 : Int) (K_1 : Unit → Option (Int × Int × Int)) (rec1 : Int → Option (Int × Int × Int)) : Int → Option (Int × Int × Int) := fun b =>
  br (decide (b < w_cells)) (
  chk (0 ≤ t10 ∧ t10 < 8) <|
  chk (w_near.length = 64) <|
  chk (0 ≤ b ∧ b < 8) <|
  chk (w_near.length = 64) <|
  br (w_near.getD (t10.toNat * 8 + b.toNat) false) (
  bnd (is_ t10 b) fun x1 =>
  br (x1) (
  br (true) (
  some (t10, b, (0 : Int))) (
  none)) (
  br (false) (
  none) (
  rec1 (w64 (b + (1 : Int)))))) (
  br (false) (
  none) (
  rec1 (w64 (b + (1 : Int)))))) (
  K_1 ())
def plan_web_firstPair.b1 (N : Nat) (w_cells : Int) (w_near : List Bool) (is_ : Int → Int → Option Bool) (K_ : Unit → Option (Int × Int × Int)) (rec : Int → Option (Int × Int × Int)) : Int → Option (Int × Int × Int) := fun t10 =>
  br (decide (t10 < w_cells)) (
  jn (τ := Unit) (fun (_ : Unit) =>
    rec (w64 (t10 + (1 : Int)))) fun K_1 =>
  rds (plan_web_firstPair.b2 N w_cells w_near is_ t10 K_1) N (w64 (t10 + (1 : Int)))) (
  K_ ())
def plan_web_firstPair (N : Nat) (w_cells : Int) (w_near : List Bool) (is_ : Int → Int → Option Bool) : Option (Int × Int × Int) :=
  jn (τ := Unit) (fun (_ : Unit) =>
    some ((0 : Int), (0 : Int), (12 : Int))) fun K_ =>
  rds (plan_web_firstPair.b1 N w_cells w_near is_ K_) N (0 : Int)

def plan_web_kinds.b2 (N : Nat) (w_near : List Bool) (so : List Int) (t23 : Int) (K_2 : Bool → Option (List Int)) (rec1 : Bool × Int → Option (List Int)) : Bool × Int → Option (List Int) := fun (taken1, t28) =>
  br (decide (t28 < (so.length : Int))) (
  chk (0 ≤ t28 ∧ t28 < (so.length : Int)) <|
  chk (0 ≤ (so.length : Int) ∧ (so.length : Int) < 8) <|
  chk (w_near.length = 64) <|
  chk (0 ≤ t28 ∧ t28 < 8) <|
  chk (w_near.length = 64) <|
  rec1 ((taken1 || (((so.getD t28.toNat 0) == t23) && (w_near.getD (((so.length : Int).toNat) * 8 + t28.toNat) false))), w64 (t28 + (1 : Int)))) (
  K_2 taken1)
def plan_web_kinds.b1 (N : Nat) (w_cells : Int) (w_near : List Bool) (so : List Int) (most : Int) (self_ : Int × List Bool × List Int × Int → Option (List Int)) (K_ : Unit → Option (List Int)) (rec : Int → Option (List Int)) : Int → Option (List Int) := fun t23 =>
  br (decide (t23 < most)) (
  jn (τ := Unit) (fun (_ : Unit) =>
    rec (w64 (t23 + (1 : Int)))) fun K_1 =>
  jn (τ := Bool) (fun (taken : Bool) =>
    br (taken) (
    K_1 ()) (
    bnd (slices_Clone_ii N so) fun x1 =>
    chk (x1.length + ([t23] : List Int).length ≤ 1000000000) <|
    bnd (self_ (w_cells, w_near, (x1 ++ ([t23] : List Int)), most)) fun x2 =>
    br (!(x2.isEmpty)) (
    some x2) (
    K_1 ()))) fun K_2 =>
  rds (plan_web_kinds.b2 N w_near so t23 K_2) N (false, (0 : Int))) (
  K_ ())
def plan_web_kinds.b (N : Nat)  (self_ : Int × List Bool × List Int × Int → Option (List Int)) : Int × List Bool × List Int × Int → Option (List Int) := fun (w_cells, w_near, so, most) =>
  br (((so.length : Int) == w_cells)) (
  chk (0 < so.length) <|
  some so) (
  jn (τ := Unit) (fun (_ : Unit) =>
    some ([] : List Int)) fun K_ =>
  rds (plan_web_kinds.b1 N w_cells w_near so most self_ K_) N (0 : Int))
def plan_web_kinds (N : Nat) (w_cells : Int) (w_near : List Bool) (so : List Int) (most : Int) : Option (List Int) := rds (plan_web_kinds.b N ) N (w_cells, w_near, so, most)

def plan_FewestKinds.b1 (N : Nat) (Zq : List (Int × Int)) (K_ : List Bool → Option (List Int × Int × Int)) (rec : Int × List Bool → Option (List Int × Int × Int)) : Int × List Bool → Option (List Int × Int × Int) := fun (t28, b31) =>
  br (decide (t28 < (Zq.length : Int))) (
  chk (0 ≤ t28 ∧ t28 < (Zq.length : Int)) <|
  chk (0 ≤ (Zq.getD t28.toNat default).1 ∧ (Zq.getD t28.toNat default).1 < 8) <|
  chk (0 ≤ (Zq.getD t28.toNat default).2 ∧ (Zq.getD t28.toNat default).2 < 8) <|
  chk (b31.length = 64) <|
  chk (0 ≤ (Zq.getD t28.toNat default).2 ∧ (Zq.getD t28.toNat default).2 < 8) <|
  chk (0 ≤ (Zq.getD t28.toNat default).1 ∧ (Zq.getD t28.toNat default).1 < 8) <|
  chk ((b31.set ((((Zq.getD t28.toNat default).1).toNat) * 8 + (((Zq.getD t28.toNat default).2).toNat)) true).length = 64) <|
  rec (w64 (t28 + (1 : Int)), ((b31.set ((((Zq.getD t28.toNat default).1).toNat) * 8 + (((Zq.getD t28.toNat default).2).toNat)) true).set ((((Zq.getD t28.toNat default).2).toNat) * 8 + (((Zq.getD t28.toNat default).1).toNat)) true))) (
  K_ b31)
def plan_FewestKinds.b4 (N : Nat) (Zp : Int) (b3 : List Bool) (t47 : Int) (t52 : Int) (K_3 : List Bool → Option (List Int × Int × Int)) (rec3 : Int × List Bool → Option (List Int × Int × Int)) : Int × List Bool → Option (List Int × Int × Int) := fun (t57, b25) =>
  br (decide (t57 < Zp)) (
  chk (0 ≤ t47 ∧ t47 < 8) <|
  chk (0 ≤ t52 ∧ t52 < 8) <|
  chk (b25.length = 64) <|
  chk (0 ≤ t47 ∧ t47 < 8) <|
  chk (0 ≤ t52 ∧ t52 < 8) <|
  chk (b3.length = 64) <|
  chk (0 ≤ t47 ∧ t47 < 8) <|
  chk (0 ≤ t57 ∧ t57 < 8) <|
  chk (0 ≤ t57 ∧ t57 < 8) <|
  chk (0 ≤ t52 ∧ t52 < 8) <|
  chk (0 ≤ t47 ∧ t47 < 8) <|
  chk (0 ≤ t52 ∧ t52 < 8) <|
  rec3 (w64 (t57 + (1 : Int)), (b25.set (t47.toNat * 8 + t52.toNat) ((b25.getD (t47.toNat * 8 + t52.toNat) false) || ((t47 != t52) && ((b3.getD (t47.toNat * 8 + t52.toNat) false) || ((b3.getD (t47.toNat * 8 + t57.toNat) false) && (b3.getD (t57.toNat * 8 + t52.toNat) false)))))))) (
  K_3 b25)
def plan_FewestKinds.b3 (N : Nat) (Zp : Int) (b3 : List Bool) (t47 : Int) (K_2 : List Bool → Option (List Int × Int × Int)) (rec2 : Int × List Bool → Option (List Int × Int × Int)) : Int × List Bool → Option (List Int × Int × Int) := fun (t52, b23) =>
  br (decide (t52 < Zp)) (
  jn (τ := List Bool) (fun (b24 : List Bool) =>
    rec2 (w64 (t52 + (1 : Int)), b24)) fun K_3 =>
  rds (plan_FewestKinds.b4 N Zp b3 t47 t52 K_3) N ((0 : Int), b23)) (
  K_2 b23)
def plan_FewestKinds.b2 (N : Nat) (Zp : Int) (b3 : List Bool) (K_1 : List Bool → Option (List Int × Int × Int)) (rec1 : Int × List Bool → Option (List Int × Int × Int)) : Int × List Bool → Option (List Int × Int × Int) := fun (t47, b21) =>
  br (decide (t47 < Zp)) (
  jn (τ := List Bool) (fun (b22 : List Bool) =>
    rec1 (w64 (t47 + (1 : Int)), b22)) fun K_2 =>
  rds (plan_FewestKinds.b3 N Zp b3 t47 K_2) N ((0 : Int), b21)) (
  K_1 b21)
def plan_FewestKinds.b5 (N : Nat) (Zp : Int) (b2 : List Bool) (K_4 : Int × List Int → Option (List Int × Int × Int)) (rec4 : Int × List Int → Option (List Int × Int × Int)) : Int × List Int → Option (List Int × Int × Int) := fun (most1, out1) =>
  br (out1.isEmpty) (
  bnd (plan_web_kinds N Zp b2 ([] : List Int) (w64 (most1 + (1 : Int)))) fun x3 =>
  rec4 (w64 (most1 + (1 : Int)), x3)) (
  K_4 (most1, out1))
def plan_FewestKinds (N : Nat) (Zp : Int) (Zq : List (Int × Int)) : Option (List Int × Int × Int) :=
  bnd (plan_CheckNet N Zp Zq) fun (x1, x11) =>
  br ((x11 != (0 : Int))) (
  some (([] : List Int), (0 : Int), x11)) (
  jn (τ := List Bool) (fun (b3 : List Bool) =>
    jn (τ := List Bool) (fun (b2 : List Bool) =>
      bnd (plan_web_kinds N Zp b2 ([] : List Int) (1 : Int)) fun x2 =>
      jn (τ := Int × List Int) (fun (most, out) =>
        some (out, most, (0 : Int))) fun K_4 =>
      rds (plan_FewestKinds.b5 N Zp b2 K_4) N ((1 : Int), x2)) fun K_1 =>
    rds (plan_FewestKinds.b2 N Zp b3 K_1) N ((0 : Int), (List.replicate 64 false))) fun K_ =>
  rds (plan_FewestKinds.b1 N Zq K_) N ((0 : Int), (List.replicate 64 false)))

def plan_FirstConfusion_1 (N : Nat) (a : Int) (b : Int) (a2 : List Int) : Option Bool :=
  chk (0 ≤ a ∧ a < (a2.length : Int)) <|
  chk (0 ≤ b ∧ b < (a2.length : Int)) <|
  some ((a2.getD a.toNat 0) == (a2.getD b.toNat 0))

def plan_FirstConfusion.b1 (N : Nat) (Zq : List (Int × Int)) (K_ : List Bool → Option (Int × Int × Int)) (rec : Int × List Bool → Option (Int × Int × Int)) : Int × List Bool → Option (Int × Int × Int) := fun (t28, b51) =>
  br (decide (t28 < (Zq.length : Int))) (
  chk (0 ≤ t28 ∧ t28 < (Zq.length : Int)) <|
  chk (0 ≤ (Zq.getD t28.toNat default).1 ∧ (Zq.getD t28.toNat default).1 < 8) <|
  chk (0 ≤ (Zq.getD t28.toNat default).2 ∧ (Zq.getD t28.toNat default).2 < 8) <|
  chk (b51.length = 64) <|
  chk (0 ≤ (Zq.getD t28.toNat default).2 ∧ (Zq.getD t28.toNat default).2 < 8) <|
  chk (0 ≤ (Zq.getD t28.toNat default).1 ∧ (Zq.getD t28.toNat default).1 < 8) <|
  chk ((b51.set ((((Zq.getD t28.toNat default).1).toNat) * 8 + (((Zq.getD t28.toNat default).2).toNat)) true).length = 64) <|
  rec (w64 (t28 + (1 : Int)), ((b51.set ((((Zq.getD t28.toNat default).1).toNat) * 8 + (((Zq.getD t28.toNat default).2).toNat)) true).set ((((Zq.getD t28.toNat default).2).toNat) * 8 + (((Zq.getD t28.toNat default).1).toNat)) true))) (
  K_ b51)
def plan_FirstConfusion.b4 (N : Nat) (Zp : Int) (b5 : List Bool) (t47 : Int) (t52 : Int) (K_3 : List Bool → Option (Int × Int × Int)) (rec3 : Int × List Bool → Option (Int × Int × Int)) : Int × List Bool → Option (Int × Int × Int) := fun (t57, b45) =>
  br (decide (t57 < Zp)) (
  chk (0 ≤ t47 ∧ t47 < 8) <|
  chk (0 ≤ t52 ∧ t52 < 8) <|
  chk (b45.length = 64) <|
  chk (0 ≤ t47 ∧ t47 < 8) <|
  chk (0 ≤ t52 ∧ t52 < 8) <|
  chk (b5.length = 64) <|
  chk (0 ≤ t47 ∧ t47 < 8) <|
  chk (0 ≤ t57 ∧ t57 < 8) <|
  chk (0 ≤ t57 ∧ t57 < 8) <|
  chk (0 ≤ t52 ∧ t52 < 8) <|
  chk (0 ≤ t47 ∧ t47 < 8) <|
  chk (0 ≤ t52 ∧ t52 < 8) <|
  rec3 (w64 (t57 + (1 : Int)), (b45.set (t47.toNat * 8 + t52.toNat) ((b45.getD (t47.toNat * 8 + t52.toNat) false) || ((t47 != t52) && ((b5.getD (t47.toNat * 8 + t52.toNat) false) || ((b5.getD (t47.toNat * 8 + t57.toNat) false) && (b5.getD (t57.toNat * 8 + t52.toNat) false)))))))) (
  K_3 b45)
def plan_FirstConfusion.b3 (N : Nat) (Zp : Int) (b5 : List Bool) (t47 : Int) (K_2 : List Bool → Option (Int × Int × Int)) (rec2 : Int × List Bool → Option (Int × Int × Int)) : Int × List Bool → Option (Int × Int × Int) := fun (t52, b43) =>
  br (decide (t52 < Zp)) (
  jn (τ := List Bool) (fun (b44 : List Bool) =>
    rec2 (w64 (t52 + (1 : Int)), b44)) fun K_3 =>
  rds (plan_FirstConfusion.b4 N Zp b5 t47 t52 K_3) N ((0 : Int), b43)) (
  K_2 b43)
def plan_FirstConfusion.b2 (N : Nat) (Zp : Int) (b5 : List Bool) (K_1 : List Bool → Option (Int × Int × Int)) (rec1 : Int × List Bool → Option (Int × Int × Int)) : Int × List Bool → Option (Int × Int × Int) := fun (t47, b41) =>
  br (decide (t47 < Zp)) (
  jn (τ := List Bool) (fun (b42 : List Bool) =>
    rec1 (w64 (t47 + (1 : Int)), b42)) fun K_2 =>
  rds (plan_FirstConfusion.b3 N Zp b5 t47 K_2) N ((0 : Int), b41)) (
  K_1 b41)
def plan_FirstConfusion (N : Nat) (Zp : Int) (Zq : List (Int × Int)) (identities : List Int) : Option (Int × Int × Int) :=
  bnd (plan_CheckNet N Zp Zq) fun (x1, x11) =>
  br ((x11 != (0 : Int))) (
  some ((0 : Int), (0 : Int), x11)) (
  jn (τ := List Bool) (fun (b5 : List Bool) =>
    jn (τ := List Bool) (fun (b4 : List Bool) =>
      bnd (plan_web_listErr N Zp b4 identities (fun y0 => plan_isIdentity N y0)) fun x2 =>
      br ((x2 != (0 : Int))) (
      some ((0 : Int), (0 : Int), x2)) (
      bnd (plan_web_firstPair N Zp b4 (fun y0 y1 => plan_FirstConfusion_1 N y0 y1 identities)) fun (x3, x31, x32) =>
      some (x3, x31, x32))) fun K_1 =>
    rds (plan_FirstConfusion.b2 N Zp b5 K_1) N ((0 : Int), (List.replicate 64 false))) fun K_ =>
  rds (plan_FirstConfusion.b1 N Zq K_) N ((0 : Int), (List.replicate 64 false)))

def ref09_kinds.b2 (N : Nat) (Zp : Int) (Zq : List (Int × Int)) (have_ : List Int) (kind : Int) (K_2 : Bool → Option (List Int × Bool)) (rec1 : Bool × Int → Option (List Int × Bool)) : Bool × Int → Option (List Int × Bool) := fun (right1, i) =>
  br (decide (i < (have_.length : Int))) (
  chk (right1 = true → 0 ≤ i ∧ i < (have_.length : Int)) <|
  bnd (grd (right1 && (!((have_.getD i.toNat 0) != kind))) false (ref09_IsNear N Zp Zq i (have_.length : Int))) fun x1 =>
  rec1 ((right1 && (((have_.getD i.toNat 0) != kind) || (!x1))), w64 (i + (1 : Int)))) (
  K_2 right1)
def ref09_kinds.b1 (N : Nat) (Zp : Int) (Zq : List (Int × Int)) (count : Int) (have_ : List Int) (self_ : Int × (List (Int × Int)) × Int × List Int → Option (List Int × Bool)) (K_ : Unit → Option (List Int × Bool)) (rec : Int → Option (List Int × Bool)) : Int → Option (List Int × Bool) := fun kind =>
  br (decide (kind < count)) (
  jn (τ := Unit) (fun (_ : Unit) =>
    rec (w64 (kind + (1 : Int)))) fun K_1 =>
  jn (τ := Bool) (fun (right : Bool) =>
    br (!right) (
    K_1 ()) (
    bnd (base_CopyInts N have_) fun x2 =>
    chk (x2.length + ([kind] : List Int).length ≤ 1000000000) <|
    bnd (self_ (Zp, Zq, count, (x2 ++ ([kind] : List Int)))) fun (x3, x31) =>
    br (x31) (
    some (x3, true)) (
    K_1 ()))) fun K_2 =>
  rds (ref09_kinds.b2 N Zp Zq have_ kind K_2) N (true, (0 : Int))) (
  K_ ())
def ref09_kinds.b (N : Nat)  (self_ : Int × (List (Int × Int)) × Int × List Int → Option (List Int × Bool)) : Int × (List (Int × Int)) × Int × List Int → Option (List Int × Bool) := fun (Zp, Zq, count, have_) =>
  br (((have_.length : Int) == Zp)) (
  some (have_, true)) (
  jn (τ := Unit) (fun (_ : Unit) =>
    some (([] : List Int), false)) fun K_ =>
  rds (ref09_kinds.b1 N Zp Zq count have_ self_ K_) N (0 : Int))
def ref09_kinds (N : Nat) (Zp : Int) (Zq : List (Int × Int)) (count : Int) (have_ : List Int) : Option (List Int × Bool) := rds (ref09_kinds.b N ) N (Zp, Zq, count, have_)

def ref09_FewestKinds.b1 (N : Nat) (Zp : Int) (Zq : List (Int × Int)) (K_ : Unit → Option (List Int × Int)) (rec : Int → Option (List Int × Int)) : Int → Option (List Int × Int) := fun count =>
  br (decide (count < Zp)) (
  bnd (ref09_kinds N Zp Zq count ([] : List Int)) fun (x1, x11) =>
  br (x11) (
  some (x1, count)) (
  rec (w64 (count + (1 : Int))))) (
  K_ ())
def ref09_FewestKinds (N : Nat) (Zp : Int) (Zq : List (Int × Int)) : Option (List Int × Int) :=
  jn (τ := Unit) (fun (_ : Unit) =>
    bnd (ref09_kinds N Zp Zq Zp ([] : List Int)) fun (x2, x21) =>
    some (x2, Zp)) fun K_ =>
  rds (ref09_FewestKinds.b1 N Zp Zq K_) N (1 : Int)

def ref09_IdentitiesErr.b1 (N : Nat) (identities : List Int) (K_ : Unit → Option Int) (rec : Int → Option Int) : Int → Option Int := fun i =>
  br (decide (i < (identities.length : Int))) (
  chk (0 ≤ i ∧ i < (identities.length : Int)) <|
  bnd (ref09_IdentityErr N (identities.getD i.toNat 0)) fun x1 =>
  br ((x1 != (0 : Int))) (
  some x1) (
  rec (w64 (i + (1 : Int))))) (
  K_ ())
def ref09_IdentitiesErr (N : Nat) (Zp : Int) (Zq : List (Int × Int)) (identities : List Int) : Option Int :=
  br (((identities.length : Int) != Zp)) (
  some (10 : Int)) (
  jn (τ := Unit) (fun (_ : Unit) =>
    some (0 : Int)) fun K_ =>
  rds (ref09_IdentitiesErr.b1 N identities K_) N (0 : Int))

def ref09_FirstConfusion.b2 (N : Nat) (Zp : Int) (Zq : List (Int × Int)) (identities : List Int) (i : Int) (K_1 : Unit → Option (Int × Int × Bool)) (rec1 : Int → Option (Int × Int × Bool)) : Int → Option (Int × Int × Bool) := fun k =>
  br (decide (k < Zp)) (
  bnd (ref09_IsNear N Zp Zq i k) fun x1 =>
  chk (x1 = true → 0 ≤ i ∧ i < (identities.length : Int)) <|
  chk (x1 = true → 0 ≤ k ∧ k < (identities.length : Int)) <|
  br ((x1 && ((identities.getD i.toNat 0) == (identities.getD k.toNat 0)))) (
  some (i, k, true)) (
  rec1 (w64 (k + (1 : Int))))) (
  K_1 ())
def ref09_FirstConfusion.b1 (N : Nat) (Zp : Int) (Zq : List (Int × Int)) (identities : List Int) (K_ : Unit → Option (Int × Int × Bool)) (rec : Int → Option (Int × Int × Bool)) : Int → Option (Int × Int × Bool) := fun i =>
  br (decide (i < Zp)) (
  jn (τ := Unit) (fun (_ : Unit) =>
    rec (w64 (i + (1 : Int)))) fun K_1 =>
  rds (ref09_FirstConfusion.b2 N Zp Zq identities i K_1) N (w64 (i + (1 : Int)))) (
  K_ ())
def ref09_FirstConfusion (N : Nat) (Zp : Int) (Zq : List (Int × Int)) (identities : List Int) : Option (Int × Int × Bool) :=
  jn (τ := Unit) (fun (_ : Unit) =>
    some ((0 : Int), (0 : Int), false)) fun K_ =>
  rds (ref09_FirstConfusion.b1 N Zp Zq identities K_) N (0 : Int)

def law09_PlanKinds (N : Nat) (Zp : Int) (Zq : List (Int × Int)) (identities : List Int) : Option Bool :=
  bnd (law09_awake N ) fun x1 =>
  br (!x1) (
  some false) (
  bnd (law09_pairs N Zp Zq) fun x2 =>
  br (((!x2) || (decide ((identities.length : Int) > (10 : Int))))) (
  some true) (
  bnd (ref09_CopyNet N Zp Zq) fun (x3, x31) =>
  bnd (plan_FewestKinds N x3 x31) fun (x4, x41, x42) =>
  bnd (ref09_CopyNet N Zp Zq) fun (x5, x51) =>
  bnd (base_CopyInts N identities) fun x6 =>
  bnd (plan_FirstConfusion N x5 x51 x6) fun (x7, x71, x72) =>
  bnd (ref09_NetErr N Zp Zq) fun x8 =>
  br ((x8 != (0 : Int))) (
  some (((((x42 == x8) && (x72 == x8)) && ((x4.length : Int) == (0 : Int))) && (x41 == (0 : Int))) && (Bool.and (x7 == (0 : Int)) (x71 == (0 : Int))))) (
  bnd (ref09_FewestKinds N Zp Zq) fun (x9, x91) =>
  bnd (grd (!(x42 != (0 : Int))) false (base_Ints N x4 x9)) fun x10 =>
  br ((((x42 != (0 : Int)) || (!x10)) || (x41 != x91))) (
  some false) (
  bnd (ref09_IdentitiesErr N Zp Zq identities) fun x11 =>
  br ((x11 != (0 : Int))) (
  some ((x72 == x11) && (Bool.and (x7 == (0 : Int)) (x71 == (0 : Int))))) (
  bnd (ref09_FirstConfusion N Zp Zq identities) fun (x12, x121, x122) =>
  some (((x122 && (x72 == (0 : Int))) && (Bool.and (x7 == x12) (x71 == x121))) || (((!x122) && (x72 == (12 : Int))) && (Bool.and (x7 == (0 : Int)) (x71 == (0 : Int))))))))))
end
end Go.Sh
