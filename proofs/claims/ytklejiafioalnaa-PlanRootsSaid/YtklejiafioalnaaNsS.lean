import Derived.Test.YtklejiafioalnaaNsH
set_option linter.all false
namespace Go.Sh
open Go.PW
noncomputable section
def base_CopyInts (N : Nat) (l : List Int) : Option (List Int) :=
  chk (([] : List Int).length + l.length ≤ 1000000000) <|
  some (([] : List Int) ++ l)

def plan_unless (N : Nat) (ok : Bool) (e : Int) : Option Int :=
  br (ok) (
  some (0 : Int)) (
  some e)

def plan_first.b1 (N : Nat) (l : List Int) (K_ : Unit → Option Int) (rec : Int → Option Int) : Int → Option Int := fun t7 =>
  br (decide (t7 < (l.length : Int))) (
  chk (0 ≤ t7 ∧ t7 < (l.length : Int)) <|
  br (((l.getD t7.toNat 0) != (0 : Int))) (
  some (l.getD t7.toNat 0)) (
  rec (w64 (t7 + (1 : Int))))) (
  K_ ())
def plan_first (N : Nat) (l : List Int) : Option Int :=
  jn (τ := Unit) (fun (_ : Unit) =>
    some (0 : Int)) fun K_ =>
  rds (plan_first.b1 N l K_) N (0 : Int)

def slices_IndexFunc_ii.b1 (N : Nat) (s : List Int) (f : Int → Option Bool) (K_ : Unit → Option Int) (rec : Int → Option Int) : Int → Option Int := fun t8 =>
  br (decide (t8 < (s.length : Int))) (
  chk (0 ≤ t8 ∧ t8 < (s.length : Int)) <|
  bnd (f (s.getD t8.toNat 0)) fun x1 =>
  br (x1) (
  some t8) (
  rec (w64 (t8 + (1 : Int))))) (
  K_ ())
def slices_IndexFunc_ii (N : Nat) (s : List Int) (f : Int → Option Bool) : Option Int :=
  jn (τ := Unit) (fun (_ : Unit) =>
    some (-1 : Int)) fun K_ =>
  rds (slices_IndexFunc_ii.b1 N s f K_) N (0 : Int)

def plan_within (N : Nat) (n : Int) (lo : Int) (hi : Int) : Option Bool :=
  some ((decide (lo ≤ n)) && (decide (n ≤ hi)))

def base_Within (N : Nat) (n : Int) (lo : Int) (hi : Int) : Option Bool :=
  some ((decide (lo ≤ n)) && (decide (n ≤ hi)))

def law09_pairs (N : Nat) (Zp : Int) (Zq : List (Int × Int)) : Option Bool :=
  some ((decide ((Zq.length : Int) ≤ (30 : Int))) || ((decide ((Zq.length : Int) > (64 : Int))) && (decide ((Zq.length : Int) ≤ w64 ((64 : Int) + (2 : Int))))))

def ref09_CopyNet (N : Nat) (Zp : Int) (Zq : List (Int × Int)) : Option (Int × (List (Int × Int))) :=
  chk (Zq.length ≤ 1000000000) <|
  some (Zp, Zq)

def plan_CheckNet_1 (N : Nat) (c : Int) (Z2 : Int) (Z6 : List (Int × Int)) : Option Bool :=
  bnd (plan_within N c (0 : Int) (w64 (Z2 - (1 : Int)))) fun x1 =>
  some x1

def cmp_isNaN_int (N : Nat) (x : Int) : Option Bool :=
  some (x != x)

def cmp_Compare_int (N : Nat) (x : Int) (y : Int) : Option Int :=
  bnd (cmp_isNaN_int N x) fun x1 =>
  bnd (cmp_isNaN_int N y) fun x2 =>
  br (x1) (
  br (x2) (
  some (0 : Int)) (
  some (-1 : Int))) (
  br (x2) (
  some (1 : Int)) (
  br (decide (x < y)) (
  some (-1 : Int)) (
  br (decide (x > y)) (
  some (1 : Int)) (
  some (0 : Int)))))

def slices_Compare_ii.b1 (N : Nat) (s1 : List Int) (s2 : List Int) (K_ : Unit → Option Int) (rec : Int → Option Int) : Int → Option Int := fun t11 =>
  br (decide (t11 < (s1.length : Int))) (
  chk (0 ≤ t11 ∧ t11 < (s1.length : Int)) <|
  br (decide (t11 ≥ (s2.length : Int))) (
  some (1 : Int)) (
  chk (0 ≤ t11 ∧ t11 < (s2.length : Int)) <|
  bnd (cmp_Compare_int N (s1.getD t11.toNat 0) (s2.getD t11.toNat 0)) fun x1 =>
  br ((x1 != (0 : Int))) (
  some x1) (
  rec (w64 (t11 + (1 : Int)))))) (
  K_ ())
def slices_Compare_ii (N : Nat) (s1 : List Int) (s2 : List Int) : Option Int :=
  jn (τ := Unit) (fun (_ : Unit) =>
    br (decide ((s1.length : Int) < (s2.length : Int))) (
    some (-1 : Int)) (
    some (0 : Int))) fun K_ =>
  rds (slices_Compare_ii.b1 N s1 s2 K_) N (0 : Int)

def plan_CheckNet.b1 (N : Nat) (Zp : Int) (Zq : List (Int × Int)) (K_ : Unit → Option (Int × Int)) (rec : Int → Option (Int × Int)) : Int → Option (Int × Int) := fun t28 =>
  br (decide (t28 < (Zq.length : Int))) (
  chk (0 ≤ t28 ∧ t28 < (Zq.length : Int)) <|
  chk ((!(t28 == (0 : Int))) = true → 0 ≤ (if (0 : Int) < w64 (t28 - (1 : Int)) then w64 (t28 - (1 : Int)) else (0 : Int)) ∧ (if (0 : Int) < w64 (t28 - (1 : Int)) then w64 (t28 - (1 : Int)) else (0 : Int)) < (Zq.length : Int)) <|
  bnd (grd (!(t28 == (0 : Int))) 0 (slices_Compare_ii N ([(Zq.getD t28.toNat default).1, (Zq.getD t28.toNat default).2] : List Int) ([(Zq.getD ((if (0 : Int) < w64 (t28 - (1 : Int)) then w64 (t28 - (1 : Int)) else (0 : Int)).toNat) default).1, (Zq.getD ((if (0 : Int) < w64 (t28 - (1 : Int)) then w64 (t28 - (1 : Int)) else (0 : Int)).toNat) default).2] : List Int))) fun x5 =>
  bnd (plan_CheckNet_1 N ((Zq.getD t28.toNat default).1) Zp Zq) fun x6 =>
  bnd (grd x6 false (plan_CheckNet_1 N ((Zq.getD t28.toNat default).2) Zp Zq)) fun x7 =>
  bnd (plan_unless N (x6 && x7) (6 : Int)) fun x8 =>
  bnd (plan_unless N ((decide ((Zq.getD t28.toNat default).1 < (Zq.getD t28.toNat default).2)) && ((t28 == (0 : Int)) || (decide (x5 > (0 : Int))))) (9 : Int)) fun x9 =>
  bnd (plan_first N ([x8, x9] : List Int)) fun x10 =>
  br ((x10 != (0 : Int))) (
  some (t28, x10)) (
  rec (w64 (t28 + (1 : Int))))) (
  K_ ())
def plan_CheckNet (N : Nat) (Zp : Int) (Zq : List (Int × Int)) : Option (Int × Int) :=
  bnd (plan_within N Zp (1 : Int) (8 : Int)) fun x1 =>
  bnd (plan_unless N x1 (2 : Int)) fun x2 =>
  bnd (plan_unless N (decide ((Zq.length : Int) ≤ (64 : Int))) (8 : Int)) fun x3 =>
  bnd (plan_first N ([x2, x3] : List Int)) fun x4 =>
  br ((x4 != (0 : Int))) (
  some ((0 : Int), x4)) (
  jn (τ := Unit) (fun (_ : Unit) =>
    some ((0 : Int), (0 : Int))) fun K_ =>
  rds (plan_CheckNet.b1 N Zp Zq K_) N (0 : Int))

def base_Before.b1 (N : Nat) (a : List Int) (b : List Int) (K_ : Unit → Option Bool) (rec : Int → Option Bool) : Int → Option Bool := fun i =>
  br (((decide (i < (a.length : Int))) && (decide (i < (b.length : Int))))) (
  chk (0 ≤ i ∧ i < (a.length : Int)) <|
  chk (0 ≤ i ∧ i < (b.length : Int)) <|
  br (((a.getD i.toNat 0) != (b.getD i.toNat 0))) (
  chk (0 ≤ i ∧ i < (a.length : Int)) <|
  chk (0 ≤ i ∧ i < (b.length : Int)) <|
  some (decide ((a.getD i.toNat 0) < (b.getD i.toNat 0)))) (
  rec (w64 (i + (1 : Int))))) (
  K_ ())
def base_Before (N : Nat) (a : List Int) (b : List Int) : Option Bool :=
  jn (τ := Unit) (fun (_ : Unit) =>
    some (decide ((a.length : Int) < (b.length : Int)))) fun K_ =>
  rds (base_Before.b1 N a b K_) N (0 : Int)

def ref09_CheckNet.b1 (N : Nat) (Zp : Int) (Zq : List (Int × Int)) (K_ : Unit → Option (Int × Int)) (rec : Int → Option (Int × Int)) : Int → Option (Int × Int) := fun i =>
  br (decide (i < (Zq.length : Int))) (
  chk (0 ≤ i ∧ i < (Zq.length : Int)) <|
  chk (0 ≤ i ∧ i < (Zq.length : Int)) <|
  bnd (base_Within N ((Zq.getD i.toNat default).1) (0 : Int) (w64 (Zp - (1 : Int)))) fun x2 =>
  bnd (grd x2 false (base_Within N ((Zq.getD i.toNat default).2) (0 : Int) (w64 (Zp - (1 : Int))))) fun x3 =>
  br (((!x2) || (!x3))) (
  some (i, (6 : Int))) (
  chk (((!(decide ((Zq.getD i.toNat default).1 ≥ (Zq.getD i.toNat default).2))) && (decide (i > (0 : Int)))) = true → 0 ≤ w64 (i - (1 : Int)) ∧ w64 (i - (1 : Int)) < (Zq.length : Int)) <|
  chk (((!(decide ((Zq.getD i.toNat default).1 ≥ (Zq.getD i.toNat default).2))) && (decide (i > (0 : Int)))) = true → 0 ≤ i ∧ i < (Zq.length : Int)) <|
  bnd (grd ((!(decide ((Zq.getD i.toNat default).1 ≥ (Zq.getD i.toNat default).2))) && (decide (i > (0 : Int)))) false (base_Before N ([(Zq.getD ((w64 (i - (1 : Int))).toNat) default).1, (Zq.getD ((w64 (i - (1 : Int))).toNat) default).2] : List Int) ([(Zq.getD i.toNat default).1, (Zq.getD i.toNat default).2] : List Int))) fun x4 =>
  br (((decide ((Zq.getD i.toNat default).1 ≥ (Zq.getD i.toNat default).2)) || ((decide (i > (0 : Int))) && (!x4)))) (
  some (i, (9 : Int))) (
  rec (w64 (i + (1 : Int)))))) (
  K_ ())
def ref09_CheckNet (N : Nat) (Zp : Int) (Zq : List (Int × Int)) : Option (Int × Int) :=
  bnd (base_Within N Zp (1 : Int) (8 : Int)) fun x1 =>
  br (!x1) (
  some ((0 : Int), (2 : Int))) (
  br (decide ((Zq.length : Int) > (64 : Int))) (
  some ((0 : Int), (8 : Int))) (
  jn (τ := Unit) (fun (_ : Unit) =>
    some ((0 : Int), (0 : Int))) fun K_ =>
  rds (ref09_CheckNet.b1 N Zp Zq K_) N (0 : Int)))

def ref09_neighbours.b1 (N : Nat) (Zq : List (Int × Int)) (a : Int) (b : Int) (K_ : Unit → Option Bool) (rec : Int → Option Bool) : Int → Option Bool := fun i =>
  br (decide (i < (Zq.length : Int))) (
  chk (0 ≤ i ∧ i < (Zq.length : Int)) <|
  br ((((Zq.getD i.toNat default).1 == (if b < a then b else a)) && ((Zq.getD i.toNat default).2 == (if a < b then b else a)))) (
  some true) (
  rec (w64 (i + (1 : Int))))) (
  K_ ())
def ref09_neighbours (N : Nat) (Zp : Int) (Zq : List (Int × Int)) (a : Int) (b : Int) : Option Bool :=
  jn (τ := Unit) (fun (_ : Unit) =>
    some false) fun K_ =>
  rds (ref09_neighbours.b1 N Zq a b K_) N (0 : Int)

def ref09_IsNear.b1 (N : Nat) (Zp : Int) (Zq : List (Int × Int)) (a : Int) (b : Int) (K_ : Unit → Option Bool) (rec : Int → Option Bool) : Int → Option Bool := fun k =>
  br (decide (k < Zp)) (
  bnd (ref09_neighbours N Zp Zq a k) fun x2 =>
  bnd (grd x2 false (ref09_neighbours N Zp Zq k b)) fun x3 =>
  br ((x2 && x3)) (
  some true) (
  rec (w64 (k + (1 : Int))))) (
  K_ ())
def ref09_IsNear (N : Nat) (Zp : Int) (Zq : List (Int × Int)) (a : Int) (b : Int) : Option Bool :=
  br ((a == b)) (
  some false) (
  bnd (ref09_neighbours N Zp Zq a b) fun x1 =>
  br (x1) (
  some true) (
  jn (τ := Unit) (fun (_ : Unit) =>
    some false) fun K_ =>
  rds (ref09_IsNear.b1 N Zp Zq a b K_) N (0 : Int)))

def base_Ints.b1 (N : Nat) (a : List Int) (b : List Int) (K_ : Unit → Option Bool) (rec : Int → Option Bool) : Int → Option Bool := fun i =>
  br (decide (i < (a.length : Int))) (
  chk (0 ≤ i ∧ i < (a.length : Int)) <|
  chk (0 ≤ i ∧ i < (b.length : Int)) <|
  br (((a.getD i.toNat 0) != (b.getD i.toNat 0))) (
  some false) (
  rec (w64 (i + (1 : Int))))) (
  K_ ())
def base_Ints (N : Nat) (a : List Int) (b : List Int) : Option Bool :=
  br (((a.length : Int) != (b.length : Int))) (
  some false) (
  jn (τ := Unit) (fun (_ : Unit) =>
    some true) fun K_ =>
  rds (base_Ints.b1 N a b K_) N (0 : Int))

def ref09_NetErr (N : Nat) (Zp : Int) (Zq : List (Int × Int)) : Option Int :=
  bnd (ref09_CheckNet N Zp Zq) fun (x1, x11) =>
  some x11

def plan_web_listErr_1 (N : Nat) (n : Int) (a1 : Int → Option Bool) : Option Bool :=
  bnd (a1 n) fun x1 =>
  some (!x1)

def slices_ContainsFunc_ii (N : Nat) (s : List Int) (f : Int → Option Bool) : Option Bool :=
  bnd (slices_IndexFunc_ii N s f) fun x1 =>
  some (decide (x1 ≥ (0 : Int)))

def plan_web_listErr (N : Nat) (w_cells : Int) (w_near : List Bool) (l : List Int) (right : Int → Option Bool) : Option Int :=
  bnd (slices_ContainsFunc_ii N l (fun y0 => plan_web_listErr_1 N y0 right)) fun x1 =>
  bnd (plan_unless N ((l.length : Int) == w_cells) (10 : Int)) fun x2 =>
  bnd (plan_unless N (!x1) (2 : Int)) fun x3 =>
  bnd (plan_first N ([x2, x3] : List Int)) fun x4 =>
  some x4

def plan_isNeed (N : Nat) (n : Int) : Option Bool :=
  bnd (plan_within N n (1 : Int) (20 : Int)) fun x1 =>
  some x1

def plan_roots_meets (N : Nat) (r_first : Int) (r_count : Int) (o_first : Int) (o_count : Int) : Option Bool :=
  some ((decide (r_first < w64 (o_first + o_count))) && (decide (o_first < w64 (r_first + r_count))))

def plan_RootsFor.b1 (N : Nat) (Zq : List (Int × Int)) (K_ : List Bool → Option (List Int × Int)) (rec : Int × List Bool → Option (List Int × Int)) : Int × List Bool → Option (List Int × Int) := fun (t28, b31) =>
  br (decide (t28 < (Zq.length : Int))) (
  chk (0 ≤ t28 ∧ t28 < (Zq.length : Int)) <|
  chk (0 ≤ (Zq.getD t28.toNat default).1 ∧ (Zq.getD t28.toNat default).1 < 8) <|
  chk (0 ≤ (Zq.getD t28.toNat default).2 ∧ (Zq.getD t28.toNat default).2 < 8) <|
  chk (b31.length = 64) <|
  chk (0 ≤ (Zq.getD t28.toNat default).2 ∧ (Zq.getD t28.toNat default).2 < 8) <|
  chk (0 ≤ (Zq.getD t28.toNat default).1 ∧ (Zq.getD t28.toNat default).1 < 8) <|
  chk ((b31.set ((((Zq.getD t28.toNat default).1).toNat) * 8 + (((Zq.getD t28.toNat default).2).toNat)) true).length = 64) <|
  rec (w64 (t28 + (1 : Int)), ((b31.set ((((Zq.getD t28.toNat default).1).toNat) * 8 + (((Zq.getD t28.toNat default).2).toNat)) true).set ((((Zq.getD t28.toNat default).2).toNat) * 8 + (((Zq.getD t28.toNat default).1).toNat)) true))) (
  K_ b31)
def plan_RootsFor.b4 (N : Nat) (Zp : Int) (b3 : List Bool) (t47 : Int) (t52 : Int) (K_3 : List Bool → Option (List Int × Int)) (rec3 : Int × List Bool → Option (List Int × Int)) : Int × List Bool → Option (List Int × Int) := fun (t57, b25) =>
  br (decide (t57 < Zp)) (
  chk (0 ≤ t47 ∧ t47 < 8) <|
  chk (0 ≤ t52 ∧ t52 < 8) <|
  chk (b25.length = 64) <|
  chk (0 ≤ t47 ∧ t47 < 8) <|
  chk (0 ≤ t52 ∧ t52 < 8) <|
  chk (b3.length = 64) <|
  chk (0 ≤ t47 ∧ t47 < 8) <|
  chk (0 ≤ t57 ∧ t57 < 8) <|
  chk (0 ≤ t57 ∧ t57 < 8) <|
  chk (0 ≤ t52 ∧ t52 < 8) <|
  chk (0 ≤ t47 ∧ t47 < 8) <|
  chk (0 ≤ t52 ∧ t52 < 8) <|
  rec3 (w64 (t57 + (1 : Int)), (b25.set (t47.toNat * 8 + t52.toNat) ((b25.getD (t47.toNat * 8 + t52.toNat) false) || ((t47 != t52) && ((b3.getD (t47.toNat * 8 + t52.toNat) false) || ((b3.getD (t47.toNat * 8 + t57.toNat) false) && (b3.getD (t57.toNat * 8 + t52.toNat) false)))))))) (
  K_3 b25)
def plan_RootsFor.b3 (N : Nat) (Zp : Int) (b3 : List Bool) (t47 : Int) (K_2 : List Bool → Option (List Int × Int)) (rec2 : Int × List Bool → Option (List Int × Int)) : Int × List Bool → Option (List Int × Int) := fun (t52, b23) =>
  br (decide (t52 < Zp)) (
  jn (τ := List Bool) (fun (b24 : List Bool) =>
    rec2 (w64 (t52 + (1 : Int)), b24)) fun K_3 =>
  rds (plan_RootsFor.b4 N Zp b3 t47 t52 K_3) N ((0 : Int), b23)) (
  K_2 b23)
def plan_RootsFor.b2 (N : Nat) (Zp : Int) (b3 : List Bool) (K_1 : List Bool → Option (List Int × Int)) (rec1 : Int × List Bool → Option (List Int × Int)) : Int × List Bool → Option (List Int × Int) := fun (t47, b21) =>
  br (decide (t47 < Zp)) (
  jn (τ := List Bool) (fun (b22 : List Bool) =>
    rec1 (w64 (t47 + (1 : Int)), b22)) fun K_2 =>
  rds (plan_RootsFor.b3 N Zp b3 t47 K_2) N ((0 : Int), b21)) (
  K_1 b21)
def plan_RootsFor.b7 (N : Nat) (needs : List Int) (b2 : List Bool) (t39 : Int) (b41 : List Int) (K_6 : Int → Option (List Int × Int)) (b51 : Int) (rec5 : Int → Option (List Int × Int)) (rec6 : Int → Option (List Int × Int)) : Int → Option (List Int × Int) := fun t54 =>
  br (decide (t54 < (b41.length : Int))) (
  chk (0 ≤ t54 ∧ t54 < (b41.length : Int)) <|
  chk (0 ≤ t54 ∧ t54 < (needs.length : Int)) <|
  chk (0 ≤ t39 ∧ t39 < 8) <|
  chk (0 ≤ t54 ∧ t54 < 8) <|
  chk (b2.length = 64) <|
  bnd (grd (b2.getD (t39.toNat * 8 + t54.toNat) false) false (plan_roots_meets N b51 (needs.getD t39.toNat 0) (b41.getD t54.toNat 0) (needs.getD t54.toNat 0))) fun x6 =>
  br (((b2.getD (t39.toNat * 8 + t54.toNat) false) && x6)) (
  rec5 (w64 (b51 + (1 : Int)))) (
  rec6 (w64 (t54 + (1 : Int))))) (
  K_6 b51)
def plan_RootsFor.b6 (N : Nat) (needs : List Int) (all : Int) (b2 : List Bool) (t39 : Int) (b41 : List Int) (K_6 : Int → Option (List Int × Int)) (rec5 : Int → Option (List Int × Int)) : Int → Option (List Int × Int) := fun b51 =>
  br (decide (w64 (b51 + (needs.getD t39.toNat 0)) ≤ all)) (
  rds (plan_RootsFor.b7 N needs b2 t39 b41 K_6 b51 rec5) N (0 : Int)) (
  K_6 b51)
def plan_RootsFor.b5 (N : Nat) (needs : List Int) (all : Int) (b2 : List Bool) (K_4 : List Int → Option (List Int × Int)) (rec4 : Int × List Int → Option (List Int × Int)) : Int × List Int → Option (List Int × Int) := fun (t39, b41) =>
  br (decide (t39 < (needs.length : Int))) (
  jn (τ := List Int) (fun (b42 : List Int) =>
    rec4 (w64 (t39 + (1 : Int)), b42)) fun K_5 =>
  chk (0 ≤ t39 ∧ t39 < (needs.length : Int)) <|
  jn (τ := Int) (fun (b5 : Int) =>
    br (decide (w64 (b5 + (needs.getD t39.toNat 0)) > all)) (
    some (([] : List Int), (16 : Int))) (
    chk (b41.length + ([b5] : List Int).length ≤ 1000000000) <|
    K_5 (b41 ++ ([b5] : List Int)))) fun K_6 =>
  rds (plan_RootsFor.b6 N needs all b2 t39 b41 K_6) N (0 : Int)) (
  K_4 b41)
def plan_RootsFor (N : Nat) (Zp : Int) (Zq : List (Int × Int)) (needs : List Int) (all : Int) : Option (List Int × Int) :=
  bnd (plan_CheckNet N Zp Zq) fun (x1, x11) =>
  br ((x11 != (0 : Int))) (
  some (([] : List Int), x11)) (
  jn (τ := List Bool) (fun (b3 : List Bool) =>
    jn (τ := List Bool) (fun (b2 : List Bool) =>
      bnd (plan_web_listErr N Zp b2 needs (fun y0 => plan_isNeed N y0)) fun x2 =>
      bnd (plan_within N all (1 : Int) (138 : Int)) fun x3 =>
      bnd (plan_unless N x3 (2 : Int)) fun x4 =>
      bnd (plan_first N ([x2, x4] : List Int)) fun x5 =>
      br ((x5 != (0 : Int))) (
      some (([] : List Int), x5)) (
      jn (τ := List Int) (fun (b4 : List Int) =>
        some (b4, (0 : Int))) fun K_4 =>
      rds (plan_RootsFor.b5 N needs all b2 K_4) N ((0 : Int), ([] : List Int)))) fun K_1 =>
    rds (plan_RootsFor.b2 N Zp b3 K_1) N ((0 : Int), (List.replicate 64 false))) fun K_ =>
  rds (plan_RootsFor.b1 N Zq K_) N ((0 : Int), (List.replicate 64 false)))

def plan_isRoot (N : Nat) (n : Int) : Option Bool :=
  bnd (plan_within N n (0 : Int) (137 : Int)) fun x1 =>
  some x1

def plan_FirstRootClash_1 (N : Nat) (a : Int) (b : Int) (a2 : List Int) (a3 : List Int) : Option Bool :=
  chk (0 ≤ a ∧ a < (a2.length : Int)) <|
  chk (0 ≤ a ∧ a < (a3.length : Int)) <|
  chk (0 ≤ b ∧ b < (a2.length : Int)) <|
  chk (0 ≤ b ∧ b < (a3.length : Int)) <|
  bnd (plan_roots_meets N (a2.getD a.toNat 0) (a3.getD a.toNat 0) (a2.getD b.toNat 0) (a3.getD b.toNat 0)) fun x1 =>
  some x1

def plan_web_firstPair.b2 (N : Nat) (w_cells : Int) (w_near : List Bool) (is_ : Int → Int → Option Bool) (t10 : Int) (K_1 : Unit → Option (Int × Int × Int)) (rec1 : Int → Option (Int × Int × Int)) : Int → Option (Int × Int × Int) := fun b =>
  br (decide (b < w_cells)) (
  chk (0 ≤ t10 ∧ t10 < 8) <|
  chk (w_near.length = 64) <|
  chk (0 ≤ b ∧ b < 8) <|
  chk (w_near.length = 64) <|
  br (w_near.getD (t10.toNat * 8 + b.toNat) false) (
  bnd (is_ t10 b) fun x1 =>
  br (x1) (
  br (true) (
  some (t10, b, (0 : Int))) (
  none)) (
  br (false) (
  none) (
  rec1 (w64 (b + (1 : Int)))))) (
  br (false) (
  none) (
  rec1 (w64 (b + (1 : Int)))))) (
  K_1 ())
def plan_web_firstPair.b1 (N : Nat) (w_cells : Int) (w_near : List Bool) (is_ : Int → Int → Option Bool) (K_ : Unit → Option (Int × Int × Int)) (rec : Int → Option (Int × Int × Int)) : Int → Option (Int × Int × Int) := fun t10 =>
  br (decide (t10 < w_cells)) (
  jn (τ := Unit) (fun (_ : Unit) =>
    rec (w64 (t10 + (1 : Int)))) fun K_1 =>
  rds (plan_web_firstPair.b2 N w_cells w_near is_ t10 K_1) N (w64 (t10 + (1 : Int)))) (
  K_ ())
def plan_web_firstPair (N : Nat) (w_cells : Int) (w_near : List Bool) (is_ : Int → Int → Option Bool) : Option (Int × Int × Int) :=
  jn (τ := Unit) (fun (_ : Unit) =>
    some ((0 : Int), (0 : Int), (12 : Int))) fun K_ =>
  rds (plan_web_firstPair.b1 N w_cells w_near is_ K_) N (0 : Int)

def plan_FirstRootClash.b1 (N : Nat) (Zq : List (Int × Int)) (K_ : List Bool → Option (Int × Int × Int)) (rec : Int × List Bool → Option (Int × Int × Int)) : Int × List Bool → Option (Int × Int × Int) := fun (t28, b61) =>
  br (decide (t28 < (Zq.length : Int))) (
  chk (0 ≤ t28 ∧ t28 < (Zq.length : Int)) <|
  chk (0 ≤ (Zq.getD t28.toNat default).1 ∧ (Zq.getD t28.toNat default).1 < 8) <|
  chk (0 ≤ (Zq.getD t28.toNat default).2 ∧ (Zq.getD t28.toNat default).2 < 8) <|
  chk (b61.length = 64) <|
  chk (0 ≤ (Zq.getD t28.toNat default).2 ∧ (Zq.getD t28.toNat default).2 < 8) <|
  chk (0 ≤ (Zq.getD t28.toNat default).1 ∧ (Zq.getD t28.toNat default).1 < 8) <|
  chk ((b61.set ((((Zq.getD t28.toNat default).1).toNat) * 8 + (((Zq.getD t28.toNat default).2).toNat)) true).length = 64) <|
  rec (w64 (t28 + (1 : Int)), ((b61.set ((((Zq.getD t28.toNat default).1).toNat) * 8 + (((Zq.getD t28.toNat default).2).toNat)) true).set ((((Zq.getD t28.toNat default).2).toNat) * 8 + (((Zq.getD t28.toNat default).1).toNat)) true))) (
  K_ b61)
def plan_FirstRootClash.b4 (N : Nat) (Zp : Int) (b6 : List Bool) (t47 : Int) (t52 : Int) (K_3 : List Bool → Option (Int × Int × Int)) (rec3 : Int × List Bool → Option (Int × Int × Int)) : Int × List Bool → Option (Int × Int × Int) := fun (t57, b55) =>
  br (decide (t57 < Zp)) (
  chk (0 ≤ t47 ∧ t47 < 8) <|
  chk (0 ≤ t52 ∧ t52 < 8) <|
  chk (b55.length = 64) <|
  chk (0 ≤ t47 ∧ t47 < 8) <|
  chk (0 ≤ t52 ∧ t52 < 8) <|
  chk (b6.length = 64) <|
  chk (0 ≤ t47 ∧ t47 < 8) <|
  chk (0 ≤ t57 ∧ t57 < 8) <|
  chk (0 ≤ t57 ∧ t57 < 8) <|
  chk (0 ≤ t52 ∧ t52 < 8) <|
  chk (0 ≤ t47 ∧ t47 < 8) <|
  chk (0 ≤ t52 ∧ t52 < 8) <|
  rec3 (w64 (t57 + (1 : Int)), (b55.set (t47.toNat * 8 + t52.toNat) ((b55.getD (t47.toNat * 8 + t52.toNat) false) || ((t47 != t52) && ((b6.getD (t47.toNat * 8 + t52.toNat) false) || ((b6.getD (t47.toNat * 8 + t57.toNat) false) && (b6.getD (t57.toNat * 8 + t52.toNat) false)))))))) (
  K_3 b55)
def plan_FirstRootClash.b3 (N : Nat) (Zp : Int) (b6 : List Bool) (t47 : Int) (K_2 : List Bool → Option (Int × Int × Int)) (rec2 : Int × List Bool → Option (Int × Int × Int)) : Int × List Bool → Option (Int × Int × Int) := fun (t52, b53) =>
  br (decide (t52 < Zp)) (
  jn (τ := List Bool) (fun (b54 : List Bool) =>
    rec2 (w64 (t52 + (1 : Int)), b54)) fun K_3 =>
  rds (plan_FirstRootClash.b4 N Zp b6 t47 t52 K_3) N ((0 : Int), b53)) (
  K_2 b53)
def plan_FirstRootClash.b2 (N : Nat) (Zp : Int) (b6 : List Bool) (K_1 : List Bool → Option (Int × Int × Int)) (rec1 : Int × List Bool → Option (Int × Int × Int)) : Int × List Bool → Option (Int × Int × Int) := fun (t47, b51) =>
  br (decide (t47 < Zp)) (
  jn (τ := List Bool) (fun (b52 : List Bool) =>
    rec1 (w64 (t47 + (1 : Int)), b52)) fun K_2 =>
  rds (plan_FirstRootClash.b3 N Zp b6 t47 K_2) N ((0 : Int), b51)) (
  K_1 b51)
def plan_FirstRootClash (N : Nat) (Zp : Int) (Zq : List (Int × Int)) (needs : List Int) (from_ : List Int) : Option (Int × Int × Int) :=
  bnd (plan_CheckNet N Zp Zq) fun (x1, x11) =>
  br ((x11 != (0 : Int))) (
  some ((0 : Int), (0 : Int), x11)) (
  jn (τ := List Bool) (fun (b6 : List Bool) =>
    jn (τ := List Bool) (fun (b5 : List Bool) =>
      bnd (plan_web_listErr N Zp b5 needs (fun y0 => plan_isNeed N y0)) fun x2 =>
      bnd (plan_web_listErr N Zp b5 from_ (fun y0 => plan_isRoot N y0)) fun x3 =>
      bnd (plan_first N ([x2, x3] : List Int)) fun x4 =>
      br ((x4 != (0 : Int))) (
      some ((0 : Int), (0 : Int), x4)) (
      bnd (plan_web_firstPair N Zp b5 (fun y0 y1 => plan_FirstRootClash_1 N y0 y1 from_ needs)) fun (x5, x51, x52) =>
      some (x5, x51, x52))) fun K_1 =>
    rds (plan_FirstRootClash.b2 N Zp b6 K_1) N ((0 : Int), (List.replicate 64 false))) fun K_ =>
  rds (plan_FirstRootClash.b1 N Zq K_) N ((0 : Int), (List.replicate 64 false)))

def ref09_NeedsErr.b1 (N : Nat) (needs : List Int) (K_ : Unit → Option Int) (rec : Int → Option Int) : Int → Option Int := fun i =>
  br (decide (i < (needs.length : Int))) (
  chk (0 ≤ i ∧ i < (needs.length : Int)) <|
  bnd (base_Within N (needs.getD i.toNat 0) (1 : Int) (20 : Int)) fun x1 =>
  br (!x1) (
  some (2 : Int)) (
  rec (w64 (i + (1 : Int))))) (
  K_ ())
def ref09_NeedsErr (N : Nat) (Zp : Int) (Zq : List (Int × Int)) (needs : List Int) : Option Int :=
  br (((needs.length : Int) != Zp)) (
  some (10 : Int)) (
  jn (τ := Unit) (fun (_ : Unit) =>
    some (0 : Int)) fun K_ =>
  rds (ref09_NeedsErr.b1 N needs K_) N (0 : Int))

def ref09_FirstsErr.b1 (N : Nat) (first : List Int) (K_ : Unit → Option Int) (rec : Int → Option Int) : Int → Option Int := fun i =>
  br (decide (i < (first.length : Int))) (
  chk (0 ≤ i ∧ i < (first.length : Int)) <|
  bnd (base_Within N (first.getD i.toNat 0) (0 : Int) (137 : Int)) fun x1 =>
  br (!x1) (
  some (2 : Int)) (
  rec (w64 (i + (1 : Int))))) (
  K_ ())
def ref09_FirstsErr (N : Nat) (Zp : Int) (Zq : List (Int × Int)) (first : List Int) : Option Int :=
  br (((first.length : Int) != Zp)) (
  some (10 : Int)) (
  jn (τ := Unit) (fun (_ : Unit) =>
    some (0 : Int)) fun K_ =>
  rds (ref09_FirstsErr.b1 N first K_) N (0 : Int))

def ref09_FirstRootClash.b2 (N : Nat) (Zp : Int) (Zq : List (Int × Int)) (needs : List Int) (first : List Int) (i : Int) (K_1 : Unit → Option (Int × Int × Bool)) (rec1 : Int → Option (Int × Int × Bool)) : Int → Option (Int × Int × Bool) := fun k =>
  br (decide (k < Zp)) (
  bnd (ref09_IsNear N Zp Zq i k) fun x1 =>
  chk (x1 = true → 0 ≤ i ∧ i < (first.length : Int)) <|
  chk (x1 = true → 0 ≤ k ∧ k < (first.length : Int)) <|
  chk (x1 = true → 0 ≤ k ∧ k < (needs.length : Int)) <|
  chk ((x1 && (decide ((first.getD i.toNat 0) < w64 ((first.getD k.toNat 0) + (needs.getD k.toNat 0))))) = true → 0 ≤ k ∧ k < (first.length : Int)) <|
  chk ((x1 && (decide ((first.getD i.toNat 0) < w64 ((first.getD k.toNat 0) + (needs.getD k.toNat 0))))) = true → 0 ≤ i ∧ i < (first.length : Int)) <|
  chk ((x1 && (decide ((first.getD i.toNat 0) < w64 ((first.getD k.toNat 0) + (needs.getD k.toNat 0))))) = true → 0 ≤ i ∧ i < (needs.length : Int)) <|
  br (((x1 && (decide ((first.getD i.toNat 0) < w64 ((first.getD k.toNat 0) + (needs.getD k.toNat 0))))) && (decide ((first.getD k.toNat 0) < w64 ((first.getD i.toNat 0) + (needs.getD i.toNat 0)))))) (
  some (i, k, true)) (
  rec1 (w64 (k + (1 : Int))))) (
  K_1 ())
def ref09_FirstRootClash.b1 (N : Nat) (Zp : Int) (Zq : List (Int × Int)) (needs : List Int) (first : List Int) (K_ : Unit → Option (Int × Int × Bool)) (rec : Int → Option (Int × Int × Bool)) : Int → Option (Int × Int × Bool) := fun i =>
  br (decide (i < Zp)) (
  jn (τ := Unit) (fun (_ : Unit) =>
    rec (w64 (i + (1 : Int)))) fun K_1 =>
  rds (ref09_FirstRootClash.b2 N Zp Zq needs first i K_1) N (w64 (i + (1 : Int)))) (
  K_ ())
def ref09_FirstRootClash (N : Nat) (Zp : Int) (Zq : List (Int × Int)) (needs : List Int) (first : List Int) : Option (Int × Int × Bool) :=
  jn (τ := Unit) (fun (_ : Unit) =>
    some ((0 : Int), (0 : Int), false)) fun K_ =>
  rds (ref09_FirstRootClash.b1 N Zp Zq needs first K_) N (0 : Int)

def ref09_RootsFor.b3 (N : Nat) (Zp : Int) (Zq : List (Int × Int)) (needs : List Int) (i : Int) (b11 : List Int) (first : Int) (K_4 : Bool → Option (List Int × Bool)) (rec2 : Bool × Int → Option (List Int × Bool)) : Bool × Int → Option (List Int × Bool) := fun (right1, k) =>
  br (decide (k < i)) (
  bnd (grd right1 false (ref09_IsNear N Zp Zq k i)) fun x1 =>
  chk ((right1 && x1) = true → 0 ≤ i ∧ i < (needs.length : Int)) <|
  chk ((right1 && x1) = true → 0 ≤ k ∧ k < (b11.length : Int)) <|
  chk ((right1 && (!((!x1) || (decide (w64 (first + (needs.getD i.toNat 0)) ≤ (b11.getD k.toNat 0)))))) = true → 0 ≤ k ∧ k < (b11.length : Int)) <|
  chk ((right1 && (!((!x1) || (decide (w64 (first + (needs.getD i.toNat 0)) ≤ (b11.getD k.toNat 0)))))) = true → 0 ≤ k ∧ k < (needs.length : Int)) <|
  rec2 ((right1 && (((!x1) || (decide (w64 (first + (needs.getD i.toNat 0)) ≤ (b11.getD k.toNat 0)))) || (decide (w64 ((b11.getD k.toNat 0) + (needs.getD k.toNat 0)) ≤ first)))), w64 (k + (1 : Int)))) (
  K_4 right1)
def ref09_RootsFor.b2 (N : Nat) (Zp : Int) (Zq : List (Int × Int)) (needs : List Int) (all : Int) (i : Int) (b11 : List Int) (K_2 : Int → Option (List Int × Bool)) (rec1 : Int × Int → Option (List Int × Bool)) : Int × Int → Option (List Int × Bool) := fun (found1, first) =>
  chk (0 ≤ i ∧ i < (needs.length : Int)) <|
  br (((decide (w64 (first + (needs.getD i.toNat 0)) ≤ all)) && (decide (found1 < (0 : Int))))) (
  jn (τ := Int) (fun (found2 : Int) =>
    rec1 (found2, w64 (first + (1 : Int)))) fun K_3 =>
  jn (τ := Bool) (fun (right : Bool) =>
    br (right) (
    K_3 first) (
    K_3 found1)) fun K_4 =>
  rds (ref09_RootsFor.b3 N Zp Zq needs i b11 first K_4) N (true, (0 : Int))) (
  K_2 found1)
def ref09_RootsFor.b1 (N : Nat) (Zp : Int) (Zq : List (Int × Int)) (needs : List Int) (all : Int) (K_ : List Int → Option (List Int × Bool)) (rec : Int × List Int → Option (List Int × Bool)) : Int × List Int → Option (List Int × Bool) := fun (i, b11) =>
  br (decide (i < Zp)) (
  jn (τ := List Int) (fun (b12 : List Int) =>
    rec (w64 (i + (1 : Int)), b12)) fun K_1 =>
  jn (τ := Int) (fun (found : Int) =>
    br (decide (found < (0 : Int))) (
    some (([] : List Int), false)) (
    chk (b11.length + ([found] : List Int).length ≤ 1000000000) <|
    K_1 (b11 ++ ([found] : List Int)))) fun K_2 =>
  rds (ref09_RootsFor.b2 N Zp Zq needs all i b11 K_2) N ((-1 : Int), (0 : Int))) (
  K_ b11)
def ref09_RootsFor (N : Nat) (Zp : Int) (Zq : List (Int × Int)) (needs : List Int) (all : Int) : Option (List Int × Bool) :=
  jn (τ := List Int) (fun (b1 : List Int) =>
    some (b1, true)) fun K_ =>
  rds (ref09_RootsFor.b1 N Zp Zq needs all K_) N ((0 : Int), ([] : List Int))

def law09_PlanRoots.b1 (N : Nat) (Z16 : List Int) (all : Int) (x5 : List Int) (K_2 : Unit → Option Bool) (rec : Int → Option Bool) : Int → Option Bool := fun i =>
  br (decide (i < (x5.length : Int))) (
  chk (0 ≤ i ∧ i < (x5.length : Int)) <|
  chk (0 ≤ i ∧ i < (Z16.length : Int)) <|
  br (decide (w64 ((x5.getD i.toNat 0) + (Z16.getD i.toNat 0)) > all)) (
  some false) (
  rec (w64 (i + (1 : Int))))) (
  K_2 ())
def law09_PlanRoots (N : Nat) (Zp : Int) (Zq : List (Int × Int)) (Z16 : List Int) (Z15 : List Int) (all : Int) : Option Bool :=
  bnd (law09_awake N ) fun x1 =>
  br (!x1) (
  some false) (
  bnd (law09_pairs N Zp Zq) fun x2 =>
  br ((((!x2) || (decide ((Z16.length : Int) > (10 : Int)))) || (decide ((Z15.length : Int) > (10 : Int))))) (
  some true) (
  bnd (ref09_CopyNet N Zp Zq) fun (x3, x31) =>
  bnd (base_CopyInts N Z16) fun x4 =>
  bnd (plan_RootsFor N x3 x31 x4 all) fun (x5, x51) =>
  bnd (ref09_CopyNet N Zp Zq) fun (x6, x61) =>
  bnd (base_CopyInts N Z16) fun x7 =>
  bnd (base_CopyInts N Z15) fun x8 =>
  bnd (plan_FirstRootClash N x6 x61 x7 x8) fun (x9, x91, x92) =>
  bnd (ref09_NetErr N Zp Zq) fun x10 =>
  jn (τ := Int) (fun (d : Int) =>
    br ((d != (0 : Int))) (
    some ((((x51 == d) && (x92 == d)) && ((x5.length : Int) == (0 : Int))) && (Bool.and (x9 == (0 : Int)) (x91 == (0 : Int))))) (
    jn (τ := Unit) (fun (_ : Unit) =>
      bnd (base_Within N all (1 : Int) (138 : Int)) fun x14 =>
      br (!x14) (
      some ((x51 == (2 : Int)) && ((x5.length : Int) == (0 : Int)))) (
      bnd (ref09_RootsFor N Zp Zq Z16 all) fun (x15, x151) =>
      br (!x151) (
      some ((x51 == (16 : Int)) && ((x5.length : Int) == (0 : Int)))) (
      bnd (grd (!(x51 != (0 : Int))) false (base_Ints N x5 x15)) fun x16 =>
      br (((x51 != (0 : Int)) || (!x16))) (
      some false) (
      jn (τ := Unit) (fun (_ : Unit) =>
        bnd (ref09_CopyNet N Zp Zq) fun (x17, x171) =>
        bnd (base_CopyInts N Z16) fun x18 =>
        bnd (base_CopyInts N x5) fun x19 =>
        bnd (plan_FirstRootClash N x17 x171 x18 x19) fun (x20, x201, x202) =>
        some ((x202 == (12 : Int)) && (Bool.and (x20 == (0 : Int)) (x201 == (0 : Int))))) fun K_2 =>
      rds (law09_PlanRoots.b1 N Z16 all x5 K_2) N (0 : Int))))) fun K_1 =>
    bnd (ref09_FirstsErr N Zp Zq Z15) fun x12 =>
    br ((x12 != (0 : Int))) (
    br (((x92 != x12) || (!(Bool.and (x9 == (0 : Int)) (x91 == (0 : Int)))))) (
    some false) (
    K_1 ())) (
    bnd (ref09_FirstRootClash N Zp Zq Z16 Z15) fun (x13, x131, x132) =>
    br (((x132 && ((x92 != (0 : Int)) || (!(Bool.and (x9 == x13) (x91 == x131))))) || ((!x132) && ((x92 != (12 : Int)) || (!(Bool.and (x9 == (0 : Int)) (x91 == (0 : Int)))))))) (
    some false) (
    K_1 ())))) fun K_ =>
  br ((x10 == (0 : Int))) (
  bnd (ref09_NeedsErr N Zp Zq Z16) fun x11 =>
  K_ x11) (
  K_ x10)))
end
end Go.Sh
