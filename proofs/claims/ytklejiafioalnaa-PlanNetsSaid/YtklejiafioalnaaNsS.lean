import Derived.Test.YtklejiafioalnaaNsH
set_option linter.all false
namespace Go.Sh
open Go.PW
noncomputable section
def plan_unless (N : Nat) (ok : Bool) (e : Int) : Option Int :=
  br (ok) (
  some (0 : Int)) (
  some e)

def plan_first.b1 (N : Nat) (l : List Int) (K_ : Unit → Option Int) (rec : Int → Option Int) : Int → Option Int := fun t7 =>
  br (decide (t7 < (l.length : Int))) (
  chk (0 ≤ t7 ∧ t7 < (l.length : Int)) <|
  br (((l.getD t7.toNat 0) != (0 : Int))) (
  some (l.getD t7.toNat 0)) (
  rec (w64 (t7 + (1 : Int))))) (
  K_ ())
def plan_first (N : Nat) (l : List Int) : Option Int :=
  jn (τ := Unit) (fun (_ : Unit) =>
    some (0 : Int)) fun K_ =>
  rds (plan_first.b1 N l K_) N (0 : Int)

def plan_within (N : Nat) (n : Int) (lo : Int) (hi : Int) : Option Bool :=
  some ((decide (lo ≤ n)) && (decide (n ≤ hi)))

def base_Within (N : Nat) (n : Int) (lo : Int) (hi : Int) : Option Bool :=
  some ((decide (lo ≤ n)) && (decide (n ≤ hi)))

def law09_pairs (N : Nat) (Zp : Int) (Zq : List (Int × Int)) : Option Bool :=
  some ((decide ((Zq.length : Int) ≤ (30 : Int))) || ((decide ((Zq.length : Int) > (64 : Int))) && (decide ((Zq.length : Int) ≤ w64 ((64 : Int) + (2 : Int))))))

def ref09_CopyNet (N : Nat) (Zp : Int) (Zq : List (Int × Int)) : Option (Int × (List (Int × Int))) :=
  chk (Zq.length ≤ 1000000000) <|
  some (Zp, Zq)

def plan_CheckNet_1 (N : Nat) (c : Int) (Z2 : Int) (Z6 : List (Int × Int)) : Option Bool :=
  bnd (plan_within N c (0 : Int) (w64 (Z2 - (1 : Int)))) fun x1 =>
  some x1

def cmp_isNaN_int (N : Nat) (x : Int) : Option Bool :=
  some (x != x)

def cmp_Compare_int (N : Nat) (x : Int) (y : Int) : Option Int :=
  bnd (cmp_isNaN_int N x) fun x1 =>
  bnd (cmp_isNaN_int N y) fun x2 =>
  br (x1) (
  br (x2) (
  some (0 : Int)) (
  some (-1 : Int))) (
  br (x2) (
  some (1 : Int)) (
  br (decide (x < y)) (
  some (-1 : Int)) (
  br (decide (x > y)) (
  some (1 : Int)) (
  some (0 : Int)))))

def slices_Compare_ii.b1 (N : Nat) (s1 : List Int) (s2 : List Int) (K_ : Unit → Option Int) (rec : Int → Option Int) : Int → Option Int := fun t11 =>
  br (decide (t11 < (s1.length : Int))) (
  chk (0 ≤ t11 ∧ t11 < (s1.length : Int)) <|
  br (decide (t11 ≥ (s2.length : Int))) (
  some (1 : Int)) (
  chk (0 ≤ t11 ∧ t11 < (s2.length : Int)) <|
  bnd (cmp_Compare_int N (s1.getD t11.toNat 0) (s2.getD t11.toNat 0)) fun x1 =>
  br ((x1 != (0 : Int))) (
  some x1) (
  rec (w64 (t11 + (1 : Int)))))) (
  K_ ())
def slices_Compare_ii (N : Nat) (s1 : List Int) (s2 : List Int) : Option Int :=
  jn (τ := Unit) (fun (_ : Unit) =>
    br (decide ((s1.length : Int) < (s2.length : Int))) (
    some (-1 : Int)) (
    some (0 : Int))) fun K_ =>
  rds (slices_Compare_ii.b1 N s1 s2 K_) N (0 : Int)

def plan_CheckNet.b1 (N : Nat) (Zp : Int) (Zq : List (Int × Int)) (K_ : Unit → Option (Int × Int)) (rec : Int → Option (Int × Int)) : Int → Option (Int × Int) := fun t28 =>
  br (decide (t28 < (Zq.length : Int))) (
  chk (0 ≤ t28 ∧ t28 < (Zq.length : Int)) <|
  chk ((!(t28 == (0 : Int))) = true → 0 ≤ (if (0 : Int) < w64 (t28 - (1 : Int)) then w64 (t28 - (1 : Int)) else (0 : Int)) ∧ (if (0 : Int) < w64 (t28 - (1 : Int)) then w64 (t28 - (1 : Int)) else (0 : Int)) < (Zq.length : Int)) <|
  bnd (grd (!(t28 == (0 : Int))) 0 (slices_Compare_ii N ([(Zq.getD t28.toNat default).1, (Zq.getD t28.toNat default).2] : List Int) ([(Zq.getD ((if (0 : Int) < w64 (t28 - (1 : Int)) then w64 (t28 - (1 : Int)) else (0 : Int)).toNat) default).1, (Zq.getD ((if (0 : Int) < w64 (t28 - (1 : Int)) then w64 (t28 - (1 : Int)) else (0 : Int)).toNat) default).2] : List Int))) fun x5 =>
  bnd (plan_CheckNet_1 N ((Zq.getD t28.toNat default).1) Zp Zq) fun x6 =>
  bnd (grd x6 false (plan_CheckNet_1 N ((Zq.getD t28.toNat default).2) Zp Zq)) fun x7 =>
  bnd (plan_unless N (x6 && x7) (6 : Int)) fun x8 =>
  bnd (plan_unless N ((decide ((Zq.getD t28.toNat default).1 < (Zq.getD t28.toNat default).2)) && ((t28 == (0 : Int)) || (decide (x5 > (0 : Int))))) (9 : Int)) fun x9 =>
  bnd (plan_first N ([x8, x9] : List Int)) fun x10 =>
  br ((x10 != (0 : Int))) (
  some (t28, x10)) (
  rec (w64 (t28 + (1 : Int))))) (
  K_ ())
def plan_CheckNet (N : Nat) (Zp : Int) (Zq : List (Int × Int)) : Option (Int × Int) :=
  bnd (plan_within N Zp (1 : Int) (8 : Int)) fun x1 =>
  bnd (plan_unless N x1 (2 : Int)) fun x2 =>
  bnd (plan_unless N (decide ((Zq.length : Int) ≤ (64 : Int))) (8 : Int)) fun x3 =>
  bnd (plan_first N ([x2, x3] : List Int)) fun x4 =>
  br ((x4 != (0 : Int))) (
  some ((0 : Int), x4)) (
  jn (τ := Unit) (fun (_ : Unit) =>
    some ((0 : Int), (0 : Int))) fun K_ =>
  rds (plan_CheckNet.b1 N Zp Zq K_) N (0 : Int))

def plan_web_cellErr (N : Nat) (w_cells : Int) (w_near : List Bool) (n : Int) : Option Int :=
  bnd (plan_within N n (0 : Int) (w64 (w_cells - (1 : Int)))) fun x1 =>
  bnd (plan_unless N x1 (6 : Int)) fun x2 =>
  some x2

def plan_Near.b1 (N : Nat) (Zq : List (Int × Int)) (K_ : List Bool → Option (List Int × Int)) (rec : Int × List Bool → Option (List Int × Int)) : Int × List Bool → Option (List Int × Int) := fun (t28, b31) =>
  br (decide (t28 < (Zq.length : Int))) (
  chk (0 ≤ t28 ∧ t28 < (Zq.length : Int)) <|
  chk (0 ≤ (Zq.getD t28.toNat default).1 ∧ (Zq.getD t28.toNat default).1 < 8) <|
  chk (0 ≤ (Zq.getD t28.toNat default).2 ∧ (Zq.getD t28.toNat default).2 < 8) <|
  chk (b31.length = 64) <|
  chk (0 ≤ (Zq.getD t28.toNat default).2 ∧ (Zq.getD t28.toNat default).2 < 8) <|
  chk (0 ≤ (Zq.getD t28.toNat default).1 ∧ (Zq.getD t28.toNat default).1 < 8) <|
  chk ((b31.set ((((Zq.getD t28.toNat default).1).toNat) * 8 + (((Zq.getD t28.toNat default).2).toNat)) true).length = 64) <|
  rec (w64 (t28 + (1 : Int)), ((b31.set ((((Zq.getD t28.toNat default).1).toNat) * 8 + (((Zq.getD t28.toNat default).2).toNat)) true).set ((((Zq.getD t28.toNat default).2).toNat) * 8 + (((Zq.getD t28.toNat default).1).toNat)) true))) (
  K_ b31)
def plan_Near.b4 (N : Nat) (Zp : Int) (b3 : List Bool) (t47 : Int) (t52 : Int) (K_3 : List Bool → Option (List Int × Int)) (rec3 : Int × List Bool → Option (List Int × Int)) : Int × List Bool → Option (List Int × Int) := fun (t57, b25) =>
  br (decide (t57 < Zp)) (
  chk (0 ≤ t47 ∧ t47 < 8) <|
  chk (0 ≤ t52 ∧ t52 < 8) <|
  chk (b25.length = 64) <|
  chk (0 ≤ t47 ∧ t47 < 8) <|
  chk (0 ≤ t52 ∧ t52 < 8) <|
  chk (b3.length = 64) <|
  chk (0 ≤ t47 ∧ t47 < 8) <|
  chk (0 ≤ t57 ∧ t57 < 8) <|
  chk (0 ≤ t57 ∧ t57 < 8) <|
  chk (0 ≤ t52 ∧ t52 < 8) <|
  chk (0 ≤ t47 ∧ t47 < 8) <|
  chk (0 ≤ t52 ∧ t52 < 8) <|
  rec3 (w64 (t57 + (1 : Int)), (b25.set (t47.toNat * 8 + t52.toNat) ((b25.getD (t47.toNat * 8 + t52.toNat) false) || ((t47 != t52) && ((b3.getD (t47.toNat * 8 + t52.toNat) false) || ((b3.getD (t47.toNat * 8 + t57.toNat) false) && (b3.getD (t57.toNat * 8 + t52.toNat) false)))))))) (
  K_3 b25)
def plan_Near.b3 (N : Nat) (Zp : Int) (b3 : List Bool) (t47 : Int) (K_2 : List Bool → Option (List Int × Int)) (rec2 : Int × List Bool → Option (List Int × Int)) : Int × List Bool → Option (List Int × Int) := fun (t52, b23) =>
  br (decide (t52 < Zp)) (
  jn (τ := List Bool) (fun (b24 : List Bool) =>
    rec2 (w64 (t52 + (1 : Int)), b24)) fun K_3 =>
  rds (plan_Near.b4 N Zp b3 t47 t52 K_3) N ((0 : Int), b23)) (
  K_2 b23)
def plan_Near.b2 (N : Nat) (Zp : Int) (b3 : List Bool) (K_1 : List Bool → Option (List Int × Int)) (rec1 : Int × List Bool → Option (List Int × Int)) : Int × List Bool → Option (List Int × Int) := fun (t47, b21) =>
  br (decide (t47 < Zp)) (
  jn (τ := List Bool) (fun (b22 : List Bool) =>
    rec1 (w64 (t47 + (1 : Int)), b22)) fun K_2 =>
  rds (plan_Near.b3 N Zp b3 t47 K_2) N ((0 : Int), b21)) (
  K_1 b21)
def plan_Near.b5 (N : Nat) (Zp : Int) (cell : Int) (b2 : List Bool) (K_4 : List Int → Option (List Int × Int)) (rec4 : Int × List Int → Option (List Int × Int)) : Int × List Int → Option (List Int × Int) := fun (t29, b33) =>
  br (decide (t29 < Zp)) (
  chk (0 ≤ cell ∧ cell < 8) <|
  chk (0 ≤ t29 ∧ t29 < 8) <|
  chk (b2.length = 64) <|
  br (b2.getD (cell.toNat * 8 + t29.toNat) false) (
  chk (b33.length + ([t29] : List Int).length ≤ 1000000000) <|
  rec4 (w64 (t29 + (1 : Int)), (b33 ++ ([t29] : List Int)))) (
  rec4 (w64 (t29 + (1 : Int)), b33))) (
  K_4 b33)
def plan_Near (N : Nat) (Zp : Int) (Zq : List (Int × Int)) (cell : Int) : Option (List Int × Int) :=
  bnd (plan_CheckNet N Zp Zq) fun (x1, x11) =>
  br ((x11 != (0 : Int))) (
  some (([] : List Int), x11)) (
  jn (τ := List Bool) (fun (b3 : List Bool) =>
    jn (τ := List Bool) (fun (b2 : List Bool) =>
      bnd (plan_web_cellErr N Zp b2 cell) fun x2 =>
      br ((x2 != (0 : Int))) (
      some (([] : List Int), x2)) (
      jn (τ := List Int) (fun (b32 : List Int) =>
        some (b32, (0 : Int))) fun K_4 =>
      rds (plan_Near.b5 N Zp cell b2 K_4) N ((0 : Int), ([] : List Int)))) fun K_1 =>
    rds (plan_Near.b2 N Zp b3 K_1) N ((0 : Int), (List.replicate 64 false))) fun K_ =>
  rds (plan_Near.b1 N Zq K_) N ((0 : Int), (List.replicate 64 false)))

def base_Before.b1 (N : Nat) (a : List Int) (b : List Int) (K_ : Unit → Option Bool) (rec : Int → Option Bool) : Int → Option Bool := fun i =>
  br (((decide (i < (a.length : Int))) && (decide (i < (b.length : Int))))) (
  chk (0 ≤ i ∧ i < (a.length : Int)) <|
  chk (0 ≤ i ∧ i < (b.length : Int)) <|
  br (((a.getD i.toNat 0) != (b.getD i.toNat 0))) (
  chk (0 ≤ i ∧ i < (a.length : Int)) <|
  chk (0 ≤ i ∧ i < (b.length : Int)) <|
  some (decide ((a.getD i.toNat 0) < (b.getD i.toNat 0)))) (
  rec (w64 (i + (1 : Int))))) (
  K_ ())
def base_Before (N : Nat) (a : List Int) (b : List Int) : Option Bool :=
  jn (τ := Unit) (fun (_ : Unit) =>
    some (decide ((a.length : Int) < (b.length : Int)))) fun K_ =>
  rds (base_Before.b1 N a b K_) N (0 : Int)

def ref09_CheckNet.b1 (N : Nat) (Zp : Int) (Zq : List (Int × Int)) (K_ : Unit → Option (Int × Int)) (rec : Int → Option (Int × Int)) : Int → Option (Int × Int) := fun i =>
  br (decide (i < (Zq.length : Int))) (
  chk (0 ≤ i ∧ i < (Zq.length : Int)) <|
  chk (0 ≤ i ∧ i < (Zq.length : Int)) <|
  bnd (base_Within N ((Zq.getD i.toNat default).1) (0 : Int) (w64 (Zp - (1 : Int)))) fun x2 =>
  bnd (grd x2 false (base_Within N ((Zq.getD i.toNat default).2) (0 : Int) (w64 (Zp - (1 : Int))))) fun x3 =>
  br (((!x2) || (!x3))) (
  some (i, (6 : Int))) (
  chk (((!(decide ((Zq.getD i.toNat default).1 ≥ (Zq.getD i.toNat default).2))) && (decide (i > (0 : Int)))) = true → 0 ≤ w64 (i - (1 : Int)) ∧ w64 (i - (1 : Int)) < (Zq.length : Int)) <|
  chk (((!(decide ((Zq.getD i.toNat default).1 ≥ (Zq.getD i.toNat default).2))) && (decide (i > (0 : Int)))) = true → 0 ≤ i ∧ i < (Zq.length : Int)) <|
  bnd (grd ((!(decide ((Zq.getD i.toNat default).1 ≥ (Zq.getD i.toNat default).2))) && (decide (i > (0 : Int)))) false (base_Before N ([(Zq.getD ((w64 (i - (1 : Int))).toNat) default).1, (Zq.getD ((w64 (i - (1 : Int))).toNat) default).2] : List Int) ([(Zq.getD i.toNat default).1, (Zq.getD i.toNat default).2] : List Int))) fun x4 =>
  br (((decide ((Zq.getD i.toNat default).1 ≥ (Zq.getD i.toNat default).2)) || ((decide (i > (0 : Int))) && (!x4)))) (
  some (i, (9 : Int))) (
  rec (w64 (i + (1 : Int)))))) (
  K_ ())
def ref09_CheckNet (N : Nat) (Zp : Int) (Zq : List (Int × Int)) : Option (Int × Int) :=
  bnd (base_Within N Zp (1 : Int) (8 : Int)) fun x1 =>
  br (!x1) (
  some ((0 : Int), (2 : Int))) (
  br (decide ((Zq.length : Int) > (64 : Int))) (
  some ((0 : Int), (8 : Int))) (
  jn (τ := Unit) (fun (_ : Unit) =>
    some ((0 : Int), (0 : Int))) fun K_ =>
  rds (ref09_CheckNet.b1 N Zp Zq K_) N (0 : Int)))

def ref09_neighbours.b1 (N : Nat) (Zq : List (Int × Int)) (a : Int) (b : Int) (K_ : Unit → Option Bool) (rec : Int → Option Bool) : Int → Option Bool := fun i =>
  br (decide (i < (Zq.length : Int))) (
  chk (0 ≤ i ∧ i < (Zq.length : Int)) <|
  br ((((Zq.getD i.toNat default).1 == (if b < a then b else a)) && ((Zq.getD i.toNat default).2 == (if a < b then b else a)))) (
  some true) (
  rec (w64 (i + (1 : Int))))) (
  K_ ())
def ref09_neighbours (N : Nat) (Zp : Int) (Zq : List (Int × Int)) (a : Int) (b : Int) : Option Bool :=
  jn (τ := Unit) (fun (_ : Unit) =>
    some false) fun K_ =>
  rds (ref09_neighbours.b1 N Zq a b K_) N (0 : Int)

def ref09_IsNear.b1 (N : Nat) (Zp : Int) (Zq : List (Int × Int)) (a : Int) (b : Int) (K_ : Unit → Option Bool) (rec : Int → Option Bool) : Int → Option Bool := fun k =>
  br (decide (k < Zp)) (
  bnd (ref09_neighbours N Zp Zq a k) fun x2 =>
  bnd (grd x2 false (ref09_neighbours N Zp Zq k b)) fun x3 =>
  br ((x2 && x3)) (
  some true) (
  rec (w64 (k + (1 : Int))))) (
  K_ ())
def ref09_IsNear (N : Nat) (Zp : Int) (Zq : List (Int × Int)) (a : Int) (b : Int) : Option Bool :=
  br ((a == b)) (
  some false) (
  bnd (ref09_neighbours N Zp Zq a b) fun x1 =>
  br (x1) (
  some true) (
  jn (τ := Unit) (fun (_ : Unit) =>
    some false) fun K_ =>
  rds (ref09_IsNear.b1 N Zp Zq a b K_) N (0 : Int)))

def ref09_Near.b1 (N : Nat) (Zp : Int) (Zq : List (Int × Int)) (cell : Int) (K_ : List Int → Option (List Int)) (rec : Int × List Int → Option (List Int)) : Int × List Int → Option (List Int) := fun (k, b11) =>
  br (decide (k < Zp)) (
  bnd (ref09_IsNear N Zp Zq cell k) fun x1 =>
  br (x1) (
  chk (b11.length + ([k] : List Int).length ≤ 1000000000) <|
  rec (w64 (k + (1 : Int)), (b11 ++ ([k] : List Int)))) (
  rec (w64 (k + (1 : Int)), b11))) (
  K_ b11)
def ref09_Near (N : Nat) (Zp : Int) (Zq : List (Int × Int)) (cell : Int) : Option (List Int) :=
  jn (τ := List Int) (fun (b1 : List Int) =>
    some b1) fun K_ =>
  rds (ref09_Near.b1 N Zp Zq cell K_) N ((0 : Int), ([] : List Int))

def base_Ints.b1 (N : Nat) (a : List Int) (b : List Int) (K_ : Unit → Option Bool) (rec : Int → Option Bool) : Int → Option Bool := fun i =>
  br (decide (i < (a.length : Int))) (
  chk (0 ≤ i ∧ i < (a.length : Int)) <|
  chk (0 ≤ i ∧ i < (b.length : Int)) <|
  br (((a.getD i.toNat 0) != (b.getD i.toNat 0))) (
  some false) (
  rec (w64 (i + (1 : Int))))) (
  K_ ())
def base_Ints (N : Nat) (a : List Int) (b : List Int) : Option Bool :=
  br (((a.length : Int) != (b.length : Int))) (
  some false) (
  jn (τ := Unit) (fun (_ : Unit) =>
    some true) fun K_ =>
  rds (base_Ints.b1 N a b K_) N (0 : Int))

def law09_PlanNets (N : Nat) (Zp : Int) (Zq : List (Int × Int)) (cell : Int) : Option Bool :=
  bnd (law09_awake N ) fun x1 =>
  br (!x1) (
  some false) (
  bnd (law09_pairs N Zp Zq) fun x2 =>
  br (!x2) (
  some true) (
  bnd (ref09_CopyNet N Zp Zq) fun (x3, x31) =>
  bnd (plan_CheckNet N x3 x31) fun (x4, x41) =>
  bnd (ref09_CopyNet N Zp Zq) fun (x5, x51) =>
  bnd (plan_Near N x5 x51 cell) fun (x6, x61) =>
  bnd (ref09_CheckNet N Zp Zq) fun (x7, x71) =>
  br (((x41 != x71) || (x4 != x7))) (
  some false) (
  jn (τ := Int) (fun (d : Int) =>
    br ((d != (0 : Int))) (
    some ((x61 == d) && ((x6.length : Int) == (0 : Int)))) (
    bnd (grd (x61 == (0 : Int)) default (ref09_Near N Zp Zq cell)) fun x9 =>
    bnd (grd (x61 == (0 : Int)) false (base_Ints N x6 x9)) fun x10 =>
    some ((x61 == (0 : Int)) && x10))) fun K_ =>
  bnd (grd (x71 == (0 : Int)) false (base_Within N cell (0 : Int) (w64 (Zp - (1 : Int))))) fun x8 =>
  br (((x71 == (0 : Int)) && (!x8))) (
  K_ (6 : Int)) (
  K_ x71))))
end
end Go.Sh
