import Derived.Test.YtklejiafioalnaaGreatZsH
set_option linter.all false
namespace Go.Sh
open Go.PW
noncomputable section
def u7 (N : Nat) (Z10 : List (List Int)) (K_ : Unit → Option Bool) (rec : Int → Option Bool) : Int → Option Bool := fun i =>
  br (decide (i < (Z10.length : Int))) (
  chk (0 ≤ i ∧ i < (Z10.length : Int)) <|
  chk ((decide (((Z10.getD i.toNat default).length : Int) > (5 : Int))) = true → 0 ≤ i ∧ i < (Z10.length : Int)) <|
  chk ((!((decide (((Z10.getD i.toNat default).length : Int) > (5 : Int))) && (decide (((Z10.getD i.toNat default).length : Int) ≤ (12 : Int))))) = true → 0 ≤ i ∧ i < (Z10.length : Int)) <|
  br ((((decide (((Z10.getD i.toNat default).length : Int) > (5 : Int))) && (decide (((Z10.getD i.toNat default).length : Int) ≤ (12 : Int)))) || (decide (((Z10.getD i.toNat default).length : Int) > (14 : Int))))) (
  some false) (
  rec (w64 (i + (1 : Int))))) (
  K_ ())
def law09_raster (N : Nat) (Z10 : List (List Int)) : Option Bool :=
  br ((((decide ((Z10.length : Int) > (5 : Int))) && (decide ((Z10.length : Int) ≤ (12 : Int)))) || (decide ((Z10.length : Int) > (14 : Int))))) (
  some false) (
  jn (τ := Unit) (fun (_ : Unit) =>
    some true) fun K_ =>
  rds (u7 N Z10 K_) N (0 : Int))

def law09_Few.b1 (N : Nat) (Zu : List (ByteArray × Int × Int × Int × Int × Int × Int)) (K_ : Unit → Option Bool) (rec : Int → Option Bool) : Int → Option Bool := fun i =>
  br (decide (i < (Zu.length : Int))) (
  chk (0 ≤ i ∧ i < (Zu.length : Int)) <|
  br (decide ((((Zu.getD i.toNat default).1).size : Int) > (20 : Int))) (
  some false) (
  rec (w64 (i + (1 : Int))))) (
  K_ ())
def law09_Few (N : Nat) (Zy : List (List Int)) (Zu : List (ByteArray × Int × Int × Int × Int × Int × Int)) (Zx : List (Int × Int)) (Zv : Int) (Zz : Int) (Zw : Int) : Option Bool :=
  bnd (law09_raster N Zy) fun x1 =>
  br ((((((!x1) || ((decide ((Zu.length : Int) > (3 : Int))) && (decide ((Zu.length : Int) ≤ (6 : Int))))) || (decide ((Zu.length : Int) > (8 : Int)))) || ((decide ((Zx.length : Int) > (5 : Int))) && (decide ((Zx.length : Int) ≤ (12 : Int))))) || (decide ((Zx.length : Int) > (14 : Int))))) (
  some false) (
  jn (τ := Unit) (fun (_ : Unit) =>
    some true) fun K_ =>
  rds (law09_Few.b1 N Zu K_) N (0 : Int))

def C2 (N : Nat) (l : List Int) : Option (List Int) :=
  chk (([] : List Int).length + l.length ≤ 1000000000) <|
  some (([] : List Int) ++ l)

def r4 (N : Nat) (l : List (List Int)) (K_ : List (List Int) → Option (List (List Int))) (rec : Int × List (List Int) → Option (List (List Int))) : Int × List (List Int) → Option (List (List Int)) := fun (i, b01) =>
  br (decide (i < (l.length : Int))) (
  chk (0 ≤ i ∧ i < (l.length : Int)) <|
  bnd (C2 N (l.getD i.toNat default)) fun x1 =>
  chk (b01.length + ([x1] : List (List Int)).length ≤ 1000000000) <|
  rec (w64 (i + (1 : Int)), (b01 ++ ([x1] : List (List Int))))) (
  K_ b01)
def base_CopyLists (N : Nat) (l : List (List Int)) : Option (List (List Int)) :=
  jn (τ := List (List Int)) (fun (b0 : List (List Int)) =>
    some b0) fun K_ =>
  rds (r4 N l K_) N ((0 : Int), ([] : List (List Int)))

def t1 (N : Nat) (Z10 : List (List Int)) : Option (List (List Int)) :=
  bnd (base_CopyLists N Z10) fun x1 =>
  some x1

def ref09_Copy (N : Nat) (Zy : List (List Int)) (Zu : List (ByteArray × Int × Int × Int × Int × Int × Int)) (Zx : List (Int × Int)) (Zv : Int) (Zz : Int) (Zw : Int) : Option (List (List Int) × (List (ByteArray × Int × Int × Int × Int × Int × Int)) × (List (Int × Int)) × Int × Int × Int) :=
  bnd (t1 N Zy) fun x1 =>
  chk (Zu.length ≤ 1000000000) <|
  chk (Zx.length ≤ 1000000000) <|
  some (x1, Zu, Zx, Zv, Zz, Zw)

def g9 (N : Nat) (ok : Bool) (e : Int) : Option Int :=
  br (ok) (
  some (0 : Int)) (
  some e)

def B6 (N : Nat) (l : List Int) (K_ : Unit → Option Int) (rec : Int → Option Int) : Int → Option Int := fun t7 =>
  br (decide (t7 < (l.length : Int))) (
  chk (0 ≤ t7 ∧ t7 < (l.length : Int)) <|
  br (((l.getD t7.toNat 0) != (0 : Int))) (
  some (l.getD t7.toNat 0)) (
  rec (w64 (t7 + (1 : Int))))) (
  K_ ())
def plan_first (N : Nat) (l : List Int) : Option Int :=
  jn (τ := Unit) (fun (_ : Unit) =>
    some (0 : Int)) fun K_ =>
  rds (B6 N l K_) N (0 : Int)

def l7 (N : Nat) (s : List Int) (f : Int → Option Bool) (K_ : Unit → Option Int) (rec : Int → Option Int) : Int → Option Int := fun t8 =>
  br (decide (t8 < (s.length : Int))) (
  chk (0 ≤ t8 ∧ t8 < (s.length : Int)) <|
  bnd (f (s.getD t8.toNat 0)) fun x1 =>
  br (x1) (
  some t8) (
  rec (w64 (t8 + (1 : Int))))) (
  K_ ())
def slices_IndexFunc_ii (N : Nat) (s : List Int) (f : Int → Option Bool) : Option Int :=
  jn (τ := Unit) (fun (_ : Unit) =>
    some (-1 : Int)) fun K_ =>
  rds (l7 N s f K_) N (0 : Int)

def l1 (N : Nat) (n : Int) (lo : Int) (hi : Int) : Option Bool :=
  some ((decide (lo ≤ n)) && (decide (n ≤ hi)))

def p4 (N : Nat) (n : Int) : Option Bool :=
  bnd (l1 N n (0 : Int) (5000 : Int)) fun x1 =>
  some (!x1)

def o5 (N : Nat) (Z10 : List (List Int)) (K_ : Unit → Option (Int × Int × Int)) (rec : Int → Option (Int × Int × Int)) : Int → Option (Int × Int × Int) := fun t28 =>
  br (decide (t28 < (Z10.length : Int))) (
  chk (0 ≤ t28 ∧ t28 < (Z10.length : Int)) <|
  chk ((decide (((Z10.getD t28.toNat default).length : Int) > (0 : Int))) = true → 0 ≤ (0 : Int) ∧ (0 : Int) < (Z10.length : Int)) <|
  bnd (g9 N ((decide (((Z10.getD t28.toNat default).length : Int) > (0 : Int))) && (((Z10.getD t28.toNat default).length : Int) == ((Z10.getD 0 default).length : Int))) (10 : Int)) fun x4 =>
  bnd (g9 N (decide (((Z10.getD t28.toNat default).length : Int) ≤ (12 : Int))) (8 : Int)) fun x5 =>
  bnd (plan_first N ([x4, x5] : List Int)) fun x6 =>
  br ((x6 != (0 : Int))) (
  some (t28, (0 : Int), x6)) (
  bnd (slices_IndexFunc_ii N (Z10.getD t28.toNat default) (fun y0 => p4 N y0)) fun x7 =>
  br (decide (x7 ≥ (0 : Int))) (
  some (t28, x7, (2 : Int))) (
  rec (w64 (t28 + (1 : Int)))))) (
  K_ ())
def plan_CheckRaster (N : Nat) (Z10 : List (List Int)) : Option (Int × Int × Int) :=
  bnd (g9 N (decide ((Z10.length : Int) > (0 : Int))) (10 : Int)) fun x1 =>
  bnd (g9 N (decide ((Z10.length : Int) ≤ (12 : Int))) (8 : Int)) fun x2 =>
  bnd (plan_first N ([x1, x2] : List Int)) fun x3 =>
  br ((x3 != (0 : Int))) (
  some ((0 : Int), (0 : Int), x3)) (
  jn (τ := Unit) (fun (_ : Unit) =>
    some ((0 : Int), (0 : Int), (0 : Int))) fun K_ =>
  rds (o5 N Z10 K_) N (0 : Int))

def t5 (N : Nat) (Z10 : List (List Int)) : Option Int :=
  bnd (plan_CheckRaster N Z10) fun (x1, x11, x12) =>
  some x12

def plan_planErr_1 (N : Nat) (Zr : ByteArray) (Zp : Int) (Zn : Int) (Zo : Int) (Zq : Int) (Zs : Int) (Zt : Int) (Z4 : ByteArray) (Z2 : Int) (Z0 : Int) (Z1 : Int) (Z3 : Int) (Z5 : Int) (Z7 : Int) : Option Bool :=
  some (Zr.toList == Z4.toList)

def f6 (N : Nat) (s : List (ByteArray × Int × Int × Int × Int × Int × Int)) (f : ByteArray → Int → Int → Int → Int → Int → Int → Option Bool) (K_ : Unit → Option Int) (rec : Int → Option Int) : Int → Option Int := fun t8 =>
  br (decide (t8 < (s.length : Int))) (
  chk (0 ≤ t8 ∧ t8 < (s.length : Int)) <|
  bnd (f ((s.getD t8.toNat default).1) ((s.getD t8.toNat default).2.1) ((s.getD t8.toNat default).2.2.1) ((s.getD t8.toNat default).2.2.2.1) ((s.getD t8.toNat default).2.2.2.2.1) ((s.getD t8.toNat default).2.2.2.2.2.1) ((s.getD t8.toNat default).2.2.2.2.2.2)) fun x1 =>
  br (x1) (
  some t8) (
  rec (w64 (t8 + (1 : Int))))) (
  K_ ())
def slices_IndexFunc_api_PlanCell_api_PlanCell (N : Nat) (s : List (ByteArray × Int × Int × Int × Int × Int × Int)) (f : ByteArray → Int → Int → Int → Int → Int → Int → Option Bool) : Option Int :=
  jn (τ := Unit) (fun (_ : Unit) =>
    some (-1 : Int)) fun K_ =>
  rds (f6 N s f K_) N (0 : Int)

def f7 (N : Nat) (s : List (ByteArray × Int × Int × Int × Int × Int × Int)) (f : ByteArray → Int → Int → Int → Int → Int → Int → Option Bool) : Option Bool :=
  bnd (slices_IndexFunc_api_PlanCell_api_PlanCell N s f) fun x1 =>
  some (decide (x1 ≥ (0 : Int)))

def y8 (N : Nat) (s : ByteArray) (K_ : Unit → Option Bool) (rec : Int → Option Bool) : Int → Option Bool := fun t9 =>
  br (decide (t9 < ((d8 s).length : Int))) (
  chk (0 ≤ t9 ∧ t9 < ((d8 s).length : Int)) <|
  br (((!(((decide (((d8 s).getD t9.toNat 0) ≥ (97 : Int))) && (decide (((d8 s).getD t9.toNat 0) ≤ (122 : Int)))) || ((decide (((d8 s).getD t9.toNat 0) ≥ (65 : Int))) && (decide (((d8 s).getD t9.toNat 0) ≤ (90 : Int)))))) && ((t9 == (0 : Int)) || ((((d8 s).getD t9.toNat 0) != (45 : Int)) && ((decide (((d8 s).getD t9.toNat 0) < (48 : Int))) || (decide (((d8 s).getD t9.toNat 0) > (57 : Int)))))))) (
  some false) (
  rec (w64 (t9 + (1 : Int))))) (
  K_ ())
def plan_isName (N : Nat) (s : ByteArray) : Option Bool :=
  jn (τ := Unit) (fun (_ : Unit) =>
    some ((!(s.toList == (⟨#[]⟩ : ByteArray).toList)) && (decide ((s.size : Int) ≤ (12 : Int))))) fun K_ =>
  rds (y8 N s K_) N (0 : Int)

def B5 (N : Nat) (n : Int) : Option Bool :=
  bnd (l1 N n (0 : Int) (1007 : Int)) fun x1 =>
  some x1

def plan_ownErr (N : Nat) (Zc : ByteArray) (Za : Int) (Z8 : Int) (Z9 : Int) (Zb : Int) (Zd : Int) (Ze : Int) : Option Int :=
  bnd (plan_isName N Zc) fun x1 =>
  bnd (g9 N x1 (4 : Int)) fun x2 =>
  bnd (B5 N Za) fun x3 =>
  bnd (g9 N x3 (2 : Int)) fun x4 =>
  bnd (plan_first N ([x2, x4] : List Int)) fun x5 =>
  some x5

def s3 (N : Nat) (Z10 : List (List Int)) (at_0 : Int) (at_1 : Int) : Option Int :=
  bnd (l1 N at_0 (0 : Int) (w64 ((Z10.length : Int) - (1 : Int)))) fun x1 =>
  chk (x1 = true → 0 ≤ (0 : Int) ∧ (0 : Int) < (Z10.length : Int)) <|
  bnd (grd x1 false (l1 N at_1 (0 : Int) (w64 (((Z10.getD 0 default).length : Int) - (1 : Int))))) fun x2 =>
  bnd (g9 N (x1 && x2) (6 : Int)) fun x3 =>
  some x3

def p3 (N : Nat) (n : Int) : Option Bool :=
  bnd (l1 N n (-2000 : Int) (1000 : Int)) fun x1 =>
  some x1

def u6 (N : Nat) (Zc : ByteArray) (Za : Int) (Z8 : Int) (Z9 : Int) (Zb : Int) (Zd : Int) (Ze : Int) : Option Int :=
  bnd (l1 N Zb (1 : Int) (200 : Int)) fun x1 =>
  bnd (grd x1 false (p3 N Zd)) fun x2 =>
  bnd (grd (x1 && x2) false (l1 N Ze (0 : Int) (11 : Int))) fun x3 =>
  bnd (g9 N ((x1 && x2) && x3) (2 : Int)) fun x4 =>
  some x4

def y9 (N : Nat) (Z10 : List (List Int)) (Zc : ByteArray) (Za : Int) (Z8 : Int) (Z9 : Int) (Zb : Int) (Zd : Int) (Ze : Int) : Option Int :=
  bnd (t5 N Z10) fun x1 =>
  bnd (plan_ownErr N Zc Za Z8 Z9 Zb Zd Ze) fun x2 =>
  bnd (s3 N Z10 Z8 Z9) fun x3 =>
  bnd (u6 N Zc Za Z8 Z9 Zb Zd Ze) fun x4 =>
  bnd (plan_first N ([x1, x2, x3, x4] : List Int)) fun x5 =>
  some x5

def u5 (N : Nat) (Zy : List (List Int)) (Zu : List (ByteArray × Int × Int × Int × Int × Int × Int)) (K_ : Unit → Option Int) (rec : Int → Option Int) : Int → Option Int := fun t34 =>
  br (decide (t34 < (Zu.length : Int))) (
  chk (0 ≤ t34 ∧ t34 < (Zu.length : Int)) <|
  chk (0 ≤ (0 : Int) ∧ (0 : Int) ≤ t34 ∧ t34 ≤ (Zu.length : Int)) <|
  bnd (f7 N (Zu.take t34.toNat) (fun y0 y1 y2 y3 y4 y5 y6 => plan_planErr_1 N y0 y1 y2 y3 y4 y5 y6 ((Zu.getD t34.toNat default).1) ((Zu.getD t34.toNat default).2.1) ((Zu.getD t34.toNat default).2.2.1) ((Zu.getD t34.toNat default).2.2.2.1) ((Zu.getD t34.toNat default).2.2.2.2.1) ((Zu.getD t34.toNat default).2.2.2.2.2.1) ((Zu.getD t34.toNat default).2.2.2.2.2.2))) fun x5 =>
  bnd (y9 N Zy ((Zu.getD t34.toNat default).1) ((Zu.getD t34.toNat default).2.1) ((Zu.getD t34.toNat default).2.2.1) ((Zu.getD t34.toNat default).2.2.2.1) ((Zu.getD t34.toNat default).2.2.2.2.1) ((Zu.getD t34.toNat default).2.2.2.2.2.1) ((Zu.getD t34.toNat default).2.2.2.2.2.2)) fun x6 =>
  bnd (g9 N (!x5) (5 : Int)) fun x7 =>
  bnd (plan_first N ([x6, x7] : List Int)) fun x8 =>
  br ((x8 != (0 : Int))) (
  some x8) (
  rec (w64 (t34 + (1 : Int))))) (
  K_ ())
def u4 (N : Nat) (Zx : List (Int × Int)) (K_1 : Unit → Option Int) (rec1 : Int × Int → Option Int) : Int × Int → Option Int := fun (last, t76) =>
  br (decide (t76 < (Zx.length : Int))) (
  chk (0 ≤ t76 ∧ t76 < (Zx.length : Int)) <|
  bnd (l1 N ((Zx.getD t76.toNat default).1) (0 : Int) (300 : Int)) fun x12 =>
  bnd (grd x12 false (l1 N ((Zx.getD t76.toNat default).2) (0 : Int) (3000 : Int))) fun x13 =>
  bnd (g9 N (x12 && x13) (2 : Int)) fun x14 =>
  bnd (g9 N (decide ((Zx.getD t76.toNat default).1 > last)) (9 : Int)) fun x15 =>
  bnd (plan_first N ([x14, x15] : List Int)) fun x16 =>
  br ((x16 != (0 : Int))) (
  some x16) (
  rec1 ((Zx.getD t76.toNat default).1, w64 (t76 + (1 : Int))))) (
  K_1 ())
def plan_planErr (N : Nat) (Zy : List (List Int)) (Zu : List (ByteArray × Int × Int × Int × Int × Int × Int)) (Zx : List (Int × Int)) (Zv : Int) (Zz : Int) (Zw : Int) : Option Int :=
  bnd (t5 N Zy) fun x1 =>
  bnd (g9 N (decide ((Zu.length : Int) > (0 : Int))) (10 : Int)) fun x2 =>
  bnd (g9 N (decide ((Zu.length : Int) ≤ (6 : Int))) (8 : Int)) fun x3 =>
  bnd (plan_first N ([x1, x2, x3] : List Int)) fun x4 =>
  br ((x4 != (0 : Int))) (
  some x4) (
  jn (τ := Unit) (fun (_ : Unit) =>
    bnd (g9 N (decide ((Zx.length : Int) > (0 : Int))) (10 : Int)) fun x9 =>
    bnd (g9 N (decide ((Zx.length : Int) ≤ (12 : Int))) (8 : Int)) fun x10 =>
    bnd (plan_first N ([x9, x10] : List Int)) fun x11 =>
    br ((x11 != (0 : Int))) (
    some x11) (
    jn (τ := Unit) (fun (_ : Unit) =>
      bnd (l1 N Zv (0 : Int) (3000 : Int)) fun x17 =>
      bnd (grd x17 false (l1 N Zz (0 : Int) (100 : Int))) fun x18 =>
      bnd (grd (x17 && x18) false (p3 N Zw)) fun x19 =>
      bnd (g9 N ((x17 && x18) && x19) (2 : Int)) fun x20 =>
      some x20) fun K_1 =>
    rds (u4 N Zx K_1) N ((-1 : Int), (0 : Int)))) fun K_ =>
  rds (u5 N Zy Zu K_) N (0 : Int))

def v5 (N : Nat) (Zj : List (List Int)) (Zf : List (ByteArray × Int × Int × Int × Int × Int × Int)) (Zi : List (Int × Int)) (Zg : Int) (Zk : Int) (Zh : Int) (f_width : Int) (f_levels : List (List (Int × Bool))) : Option Int :=
  some (w64 ((Zj.length : Int) * f_width))

def z5 (N : Nat) (Zj : List (List Int)) (Zf : List (ByteArray × Int × Int × Int × Int × Int × Int)) (Zi : List (Int × Int)) (Zg : Int) (Zk : Int) (Zh : Int) (f_width : Int) (f_levels : List (List (Int × Bool))) (n : Int) : Option (Int × Int) :=
  chk (f_width ≠ 0) <|
  chk (f_width ≠ 0) <|
  some (w64 (n.tdiv f_width), n.tmod f_width)

def plan_square (N : Nat) (a_0 : Int) (a_1 : Int) (b_0 : Int) (b_1 : Int) : Option Int :=
  some (w64 ((w64 ((w64 (a_0 - b_0)) * (w64 (a_0 - b_0)))) + (w64 ((w64 (a_1 - b_1)) * (w64 (a_1 - b_1))))))

def B7 (N : Nat) (Zm : Int) (Zl : Int) (Z4 : ByteArray) (Z2 : Int) (Z0 : Int) (Z1 : Int) (Z3 : Int) (Z5 : Int) (Z7 : Int) (a2_0 : Int) (a2_1 : Int) : Option Bool :=
  bnd (plan_square N Z0 Z1 a2_0 a2_1) fun x1 =>
  some (decide (Zm ≥ x1))

def f5 (N : Nat) (s : List (Int × Int)) (f : Int → Int → Option Bool) (K_ : Unit → Option Int) (rec : Int → Option Int) : Int → Option Int := fun t8 =>
  br (decide (t8 < (s.length : Int))) (
  chk (0 ≤ t8 ∧ t8 < (s.length : Int)) <|
  bnd (f ((s.getD t8.toNat default).1) ((s.getD t8.toNat default).2)) fun x1 =>
  br (x1) (
  some t8) (
  rec (w64 (t8 + (1 : Int))))) (
  K_ ())
def slices_IndexFunc_api_PlanLoss_api_PlanLoss (N : Nat) (s : List (Int × Int)) (f : Int → Int → Option Bool) : Option Int :=
  jn (τ := Unit) (fun (_ : Unit) =>
    some (-1 : Int)) fun K_ =>
  rds (f5 N s f K_) N (0 : Int)

def plan_size (N : Nat) (n : Int) : Option Int :=
  some (if n < w64 (0 - n) then w64 (0 - n) else n)

def plan_steps (N : Nat) (a_0 : Int) (a_1 : Int) (b_0 : Int) (b_1 : Int) : Option Int :=
  bnd (plan_size N (w64 (a_0 - b_0))) fun x1 =>
  bnd (plan_size N (w64 (a_1 - b_1))) fun x2 =>
  some (if x1 < x2 then x2 else x1)

def z9 (N : Nat) (p_0 : Int) (p_1 : Int) (Z6 : List (List Int)) : Option Int :=
  chk (0 ≤ p_0 ∧ p_0 < (Z6.length : Int)) <|
  chk (0 ≤ p_1 ∧ p_1 < ((Z6.getD p_0.toNat default).length : Int)) <|
  some ((Z6.getD p_0.toNat default).getD p_1.toNat 0)

def A4 (N : Nat) (n : Int) (by_ : Int) : Option Int :=
  chk (w64 ((2 : Int) * by_) ≠ 0) <|
  chk (w64 ((2 : Int) * by_) ≠ 0) <|
  br (decide ((w64 ((w64 ((2 : Int) * n)) + by_)).tmod (w64 ((2 : Int) * by_)) < (0 : Int))) (
  some (w64 ((w64 ((w64 ((w64 ((2 : Int) * n)) + by_)).tdiv (w64 ((2 : Int) * by_)))) - (1 : Int)))) (
  some (w64 ((w64 ((w64 ((2 : Int) * n)) + by_)).tdiv (w64 ((2 : Int) * by_)))))

def plan_sees.b1 (N : Nat) (Z10 : List (List Int)) (Z8 : Int) (Z9 : Int) (Zb : Int) (at_0 : Int) (at_1 : Int) (x1 : Int) (x2 : Int) (x3 : Int) (K_ : Unit → Option Bool) (rec : Int → Option Bool) : Int → Option Bool := fun k =>
  br (decide (k < x1)) (
  jn (τ := Unit) (fun (_ : Unit) =>
    rec (w64 (k + (1 : Int)))) fun K_1 =>
  jn (τ := Int × Int) (fun (b3, b31) =>
    bnd (z9 N b3 b31 Z10) fun x6 =>
    br (decide (w64 (x1 * x6) > w64 ((w64 ((w64 (x1 - k)) * (w64 (x2 + Zb)))) + (w64 (k * (w64 (x3 + (2 : Int)))))))) (
    some false) (
    K_1 ())) fun K_2 =>
  bnd (A4 N (w64 (k * (w64 (at_0 - Z8)))) x1) fun x4 =>
  bnd (A4 N (w64 (k * (w64 (at_1 - Z9)))) x1) fun x5 =>
  K_2 (w64 (Z8 + x4), w64 (Z9 + x5))) (
  K_ ())
def plan_sees (N : Nat) (Z10 : List (List Int)) (Zc : ByteArray) (Za : Int) (Z8 : Int) (Z9 : Int) (Zb : Int) (Zd : Int) (Ze : Int) (at_0 : Int) (at_1 : Int) : Option Bool :=
  bnd (plan_steps N Z8 Z9 at_0 at_1) fun x1 =>
  bnd (z9 N Z8 Z9 Z10) fun x2 =>
  bnd (z9 N at_0 at_1 Z10) fun x3 =>
  jn (τ := Unit) (fun (_ : Unit) =>
    some true) fun K_ =>
  rds (plan_sees.b1 N Z10 Z8 Z9 Zb at_0 at_1 x1 x2 x3 K_) N (1 : Int)

def t2 (N : Nat) (Zj : List (List Int)) (Zf : List (ByteArray × Int × Int × Int × Int × Int × Int)) (Zi : List (Int × Int)) (Zg : Int) (Zk : Int) (Zh : Int) (f_width : Int) (f_levels : List (List (Int × Bool))) (Zc : ByteArray) (Za : Int) (Z8 : Int) (Z9 : Int) (Zb : Int) (Zd : Int) (Ze : Int) (K_ : (List (Int × Bool)) → Option (List (Int × Bool))) (x1 : Int) (rec : Int × (List (Int × Bool)) → Option (List (Int × Bool))) : Int × (List (Int × Bool)) → Option (List (Int × Bool)) := fun (t12, b11) =>
  br (decide (t12 < x1)) (
  bnd (z5 N Zj Zf Zi Zg Zk Zh f_width f_levels t12) fun (x2, x21) =>
  bnd (slices_IndexFunc_api_PlanLoss_api_PlanLoss N Zi (fun y0 y1 => B7 N y0 y1 Zc Za Z8 Z9 Zb Zd Ze x2 x21)) fun x3 =>
  br (decide (x3 < (0 : Int))) (
  chk (b11.length + ([((0 : Int), false)] : List (Int × Bool)).length ≤ 1000000000) <|
  rec (w64 (t12 + (1 : Int)), (b11 ++ ([((0 : Int), false)] : List (Int × Bool))))) (
  chk (0 ≤ x3 ∧ x3 < (Zi.length : Int)) <|
  bnd (plan_steps N Z8 Z9 x2 x21) fun x4 =>
  bnd (plan_size N (w64 ((w64 ((12 : Int) - Ze)) - x4))) fun x5 =>
  bnd (plan_sees N Zj Zc Za Z8 Z9 Zb Zd Ze x2 x21) fun x6 =>
  br (!x6) (
  chk (b11.length + ([(w64 ((w64 ((w64 (Zd - ((Zi.getD x3.toNat default).2))) - (w64 (Zk * x5)))) - Zg), true)] : List (Int × Bool)).length ≤ 1000000000) <|
  rec (w64 (t12 + (1 : Int)), (b11 ++ ([(w64 ((w64 ((w64 (Zd - ((Zi.getD x3.toNat default).2))) - (w64 (Zk * x5)))) - Zg), true)] : List (Int × Bool))))) (
  chk (b11.length + ([(w64 ((w64 (Zd - ((Zi.getD x3.toNat default).2))) - (w64 (Zk * x5))), true)] : List (Int × Bool)).length ≤ 1000000000) <|
  rec (w64 (t12 + (1 : Int)), (b11 ++ ([(w64 ((w64 (Zd - ((Zi.getD x3.toNat default).2))) - (w64 (Zk * x5))), true)] : List (Int × Bool))))))) (
  K_ b11)
def plan_field_of (N : Nat) (Zj : List (List Int)) (Zf : List (ByteArray × Int × Int × Int × Int × Int × Int)) (Zi : List (Int × Int)) (Zg : Int) (Zk : Int) (Zh : Int) (f_width : Int) (f_levels : List (List (Int × Bool))) (Zc : ByteArray) (Za : Int) (Z8 : Int) (Z9 : Int) (Zb : Int) (Zd : Int) (Ze : Int) : Option (List (Int × Bool)) :=
  jn (τ := (List (Int × Bool))) (fun (b1 : (List (Int × Bool))) =>
    some b1) fun K_ =>
  bnd (v5 N Zj Zf Zi Zg Zk Zh f_width f_levels) fun x1 =>
  rds (t2 N Zj Zf Zi Zg Zk Zh f_width f_levels Zc Za Z8 Z9 Zb Zd Ze K_ x1) N ((0 : Int), ([] : List (Int × Bool)))

def v6 (N : Nat) (Zj : List (List Int)) (Zf : List (ByteArray × Int × Int × Int × Int × Int × Int)) (Zi : List (Int × Int)) (Zg : Int) (Zk : Int) (Zh : Int) (f_width : Int) (f_levels : List (List (Int × Bool))) (at_0 : Int) (at_1 : Int) : Option Int :=
  some (w64 ((w64 (at_0 * f_width)) + at_1))

def o2 (N : Nat) (f_levels : List (List (Int × Bool))) (n : Int) (K_ : Int × Int × Bool → Option (Int × Int × Bool)) (rec : Int × Int × Int × Bool → Option (Int × Int × Bool)) : Int × Int × Int × Bool → Option (Int × Int × Bool) := fun (cell1, t15, b12, b13) =>
  br (decide (t15 < (f_levels.length : Int))) (
  chk (0 ≤ t15 ∧ t15 < (f_levels.length : Int)) <|
  chk (0 ≤ n ∧ n < ((f_levels.getD t15.toNat default).length : Int)) <|
  chk (((((f_levels.getD t15.toNat default).getD n.toNat default).2) && b13) = true → 0 ≤ n ∧ n < ((f_levels.getD t15.toNat default).length : Int)) <|
  br (((((f_levels.getD t15.toNat default).getD n.toNat default).2) && ((!b13) || (decide (((f_levels.getD t15.toNat default).getD n.toNat default).1 > b12))))) (
  chk (0 ≤ n ∧ n < ((f_levels.getD t15.toNat default).length : Int)) <|
  rec (t15, w64 (t15 + (1 : Int)), ((f_levels.getD t15.toNat default).getD n.toNat default).1, ((f_levels.getD t15.toNat default).getD n.toNat default).2)) (
  rec (cell1, w64 (t15 + (1 : Int)), b12, b13))) (
  K_ (cell1, b12, b13))
def plan_field_server (N : Nat) (Zj : List (List Int)) (Zf : List (ByteArray × Int × Int × Int × Int × Int × Int)) (Zi : List (Int × Int)) (Zg : Int) (Zk : Int) (Zh : Int) (f_width : Int) (f_levels : List (List (Int × Bool))) (n : Int) : Option (Int × Int × Bool) :=
  jn (τ := Int × Int × Bool) (fun (cell, b1, b11) =>
    some (cell, b1, b11)) fun K_ =>
  rds (o2 N f_levels n K_) N ((-1 : Int), (0 : Int), (0 : Int), false)

def k4 (N : Nat) (n : Int) (lo : Int) (hi : Int) : Option Bool :=
  some ((decide (lo ≤ n)) && (decide (n ≤ hi)))

def n8 (N : Nat) (Z10 : List (List Int)) (i : Int) (K_1 : Unit → Option (Int × Int × Int)) (rec1 : Int → Option (Int × Int × Int)) : Int → Option (Int × Int × Int) := fun k =>
  chk (0 ≤ i ∧ i < (Z10.length : Int)) <|
  br (decide (k < ((Z10.getD i.toNat default).length : Int))) (
  chk (0 ≤ i ∧ i < (Z10.length : Int)) <|
  chk (0 ≤ k ∧ k < ((Z10.getD i.toNat default).length : Int)) <|
  bnd (k4 N ((Z10.getD i.toNat default).getD k.toNat 0) (0 : Int) (5000 : Int)) fun x1 =>
  br (!x1) (
  some (i, k, (2 : Int))) (
  rec1 (w64 (k + (1 : Int))))) (
  K_1 ())
def n9 (N : Nat) (Z10 : List (List Int)) (K_ : Unit → Option (Int × Int × Int)) (rec : Int → Option (Int × Int × Int)) : Int → Option (Int × Int × Int) := fun i =>
  br (decide (i < (Z10.length : Int))) (
  jn (τ := Unit) (fun (_ : Unit) =>
    rec (w64 (i + (1 : Int)))) fun K_1 =>
  chk (0 ≤ i ∧ i < (Z10.length : Int)) <|
  chk ((!(((Z10.getD i.toNat default).length : Int) == (0 : Int))) = true → 0 ≤ i ∧ i < (Z10.length : Int)) <|
  chk ((!(((Z10.getD i.toNat default).length : Int) == (0 : Int))) = true → 0 ≤ (0 : Int) ∧ (0 : Int) < (Z10.length : Int)) <|
  br (((((Z10.getD i.toNat default).length : Int) == (0 : Int)) || (((Z10.getD i.toNat default).length : Int) != ((Z10.getD 0 default).length : Int)))) (
  some (i, (0 : Int), (10 : Int))) (
  chk (0 ≤ i ∧ i < (Z10.length : Int)) <|
  br (decide (((Z10.getD i.toNat default).length : Int) > (12 : Int))) (
  some (i, (0 : Int), (8 : Int))) (
  rds (n8 N Z10 i K_1) N (0 : Int)))) (
  K_ ())
def ref09_CheckRaster (N : Nat) (Z10 : List (List Int)) : Option (Int × Int × Int) :=
  br (((Z10.length : Int) == (0 : Int))) (
  some ((0 : Int), (0 : Int), (10 : Int))) (
  br (decide ((Z10.length : Int) > (12 : Int))) (
  some ((0 : Int), (0 : Int), (8 : Int))) (
  jn (τ := Unit) (fun (_ : Unit) =>
    some ((0 : Int), (0 : Int), (0 : Int))) fun K_ =>
  rds (n9 N Z10 K_) N (0 : Int)))

def q6 (N : Nat) (Z10 : List (List Int)) : Option Int :=
  bnd (ref09_CheckRaster N Z10) fun (x1, x11, x12) =>
  some x12

def z3 (N : Nat) (s : ByteArray) (K_ : Unit → Option Bool) (rec : Int → Option Bool) : Int → Option Bool := fun i =>
  br (decide (i < (s.size : Int))) (
  chk (0 ≤ i ∧ i < (s.size : Int)) <|
  br (((!(((decide ((s.data.getD i.toNat 0).toNat ≥ (97 : Int))) && (decide ((s.data.getD i.toNat 0).toNat ≤ (122 : Int)))) || ((decide ((s.data.getD i.toNat 0).toNat ≥ (65 : Int))) && (decide ((s.data.getD i.toNat 0).toNat ≤ (90 : Int)))))) && ((i == (0 : Int)) || (((s.data.getD i.toNat 0).toNat != (45 : Int)) && ((decide ((s.data.getD i.toNat 0).toNat < (48 : Int))) || (decide ((s.data.getD i.toNat 0).toNat > (57 : Int)))))))) (
  some false) (
  rec (w64 (i + (1 : Int))))) (
  K_ ())
def base_IsName (N : Nat) (s : ByteArray) : Option Bool :=
  br (((decide ((s.size : Int) < (1 : Int))) || (decide ((s.size : Int) > (12 : Int))))) (
  some false) (
  jn (τ := Unit) (fun (_ : Unit) =>
    some true) fun K_ =>
  rds (z3 N s K_) N (0 : Int))

def v4 (N : Nat) (n : Int) : Option Int :=
  bnd (k4 N n (0 : Int) (1007 : Int)) fun x1 =>
  br (!x1) (
  some (2 : Int)) (
  some (0 : Int))

def u2 (N : Nat) (Zc : ByteArray) (Za : Int) (Z8 : Int) (Z9 : Int) (Zb : Int) (Zd : Int) (Ze : Int) : Option Int :=
  bnd (base_IsName N Zc) fun x1 =>
  br (!x1) (
  some (4 : Int)) (
  bnd (v4 N Za) fun x2 =>
  some x2)

def t4 (N : Nat) (Z10 : List (List Int)) (at_0 : Int) (at_1 : Int) : Option Int :=
  bnd (k4 N at_0 (0 : Int) (w64 ((Z10.length : Int) - (1 : Int)))) fun x1 =>
  chk (x1 = true → 0 ≤ (0 : Int) ∧ (0 : Int) < (Z10.length : Int)) <|
  bnd (grd x1 false (k4 N at_1 (0 : Int) (w64 (((Z10.getD 0 default).length : Int) - (1 : Int))))) fun x2 =>
  br (((!x1) || (!x2))) (
  some (6 : Int)) (
  some (0 : Int))

def ref09_isTilt (N : Nat) (n : Int) : Option Bool :=
  bnd (k4 N n (0 : Int) (11 : Int)) fun x1 =>
  some x1

def s9 (N : Nat) (Zc : ByteArray) (Za : Int) (Z8 : Int) (Z9 : Int) (Zb : Int) (Zd : Int) (Ze : Int) : Option Int :=
  bnd (k4 N Zb (1 : Int) (200 : Int)) fun x1 =>
  bnd (grd x1 false (k4 N Zd (-2000 : Int) (1000 : Int))) fun x2 =>
  bnd (grd (!((!x1) || (!x2))) false (ref09_isTilt N Ze)) fun x3 =>
  br ((((!x1) || (!x2)) || (!x3))) (
  some (2 : Int)) (
  some (0 : Int))

def B3 (N : Nat) (Z10 : List (List Int)) (Zc : ByteArray) (Za : Int) (Z8 : Int) (Z9 : Int) (Zb : Int) (Zd : Int) (Ze : Int) : Option Int :=
  bnd (q6 N Z10) fun x1 =>
  br ((x1 != (0 : Int))) (
  some x1) (
  bnd (u2 N Zc Za Z8 Z9 Zb Zd Ze) fun x2 =>
  br ((x2 != (0 : Int))) (
  some x2) (
  bnd (t4 N Z10 Z8 Z9) fun x3 =>
  br ((x3 != (0 : Int))) (
  some x3) (
  bnd (s9 N Zc Za Z8 Z9 Zb Zd Ze) fun x4 =>
  some x4)))

def v3 (N : Nat) (l : List ByteArray) (s : ByteArray) (K_ : Unit → Option Bool) (rec : Int → Option Bool) : Int → Option Bool := fun i =>
  br (decide (i < (l.length : Int))) (
  chk (0 ≤ i ∧ i < (l.length : Int)) <|
  br (((l.getD i.toNat default).toList == s.toList)) (
  some true) (
  rec (w64 (i + (1 : Int))))) (
  K_ ())
def base_HasText (N : Nat) (l : List ByteArray) (s : ByteArray) : Option Bool :=
  jn (τ := Unit) (fun (_ : Unit) =>
    some false) fun K_ =>
  rds (v3 N l s K_) N (0 : Int)

def s8 (N : Nat) (Zy : List (List Int)) (Zu : List (ByteArray × Int × Int × Int × Int × Int × Int)) (K_ : Unit → Option Int) (rec : Int × List ByteArray → Option Int) : Int × List ByteArray → Option Int := fun (i, b1) =>
  br (decide (i < (Zu.length : Int))) (
  chk (0 ≤ i ∧ i < (Zu.length : Int)) <|
  bnd (B3 N Zy ((Zu.getD i.toNat default).1) ((Zu.getD i.toNat default).2.1) ((Zu.getD i.toNat default).2.2.1) ((Zu.getD i.toNat default).2.2.2.1) ((Zu.getD i.toNat default).2.2.2.2.1) ((Zu.getD i.toNat default).2.2.2.2.2.1) ((Zu.getD i.toNat default).2.2.2.2.2.2)) fun x2 =>
  br ((x2 != (0 : Int))) (
  some x2) (
  chk (0 ≤ i ∧ i < (Zu.length : Int)) <|
  bnd (base_HasText N b1 ((Zu.getD i.toNat default).1)) fun x3 =>
  br (x3) (
  some (5 : Int)) (
  chk (0 ≤ i ∧ i < (Zu.length : Int)) <|
  chk (b1.length + ([(Zu.getD i.toNat default).1] : List ByteArray).length ≤ 1000000000) <|
  rec (w64 (i + (1 : Int)), (b1 ++ ([(Zu.getD i.toNat default).1] : List ByteArray)))))) (
  K_ ())
def s7 (N : Nat) (Zx : List (Int × Int)) (K_1 : Unit → Option Int) (rec1 : Int → Option Int) : Int → Option Int := fun i1 =>
  br (decide (i1 < (Zx.length : Int))) (
  chk (0 ≤ i1 ∧ i1 < (Zx.length : Int)) <|
  bnd (k4 N ((Zx.getD i1.toNat default).1) (0 : Int) (300 : Int)) fun x4 =>
  chk (x4 = true → 0 ≤ i1 ∧ i1 < (Zx.length : Int)) <|
  bnd (grd x4 false (k4 N ((Zx.getD i1.toNat default).2) (0 : Int) (3000 : Int))) fun x5 =>
  br (((!x4) || (!x5))) (
  some (2 : Int)) (
  chk ((decide (i1 > (0 : Int))) = true → 0 ≤ i1 ∧ i1 < (Zx.length : Int)) <|
  chk ((decide (i1 > (0 : Int))) = true → 0 ≤ w64 (i1 - (1 : Int)) ∧ w64 (i1 - (1 : Int)) < (Zx.length : Int)) <|
  br (((decide (i1 > (0 : Int))) && (decide ((Zx.getD i1.toNat default).1 ≤ (Zx.getD ((w64 (i1 - (1 : Int))).toNat) default).1)))) (
  some (9 : Int)) (
  rec1 (w64 (i1 + (1 : Int)))))) (
  K_1 ())
def ref09_PlanErr (N : Nat) (Zy : List (List Int)) (Zu : List (ByteArray × Int × Int × Int × Int × Int × Int)) (Zx : List (Int × Int)) (Zv : Int) (Zz : Int) (Zw : Int) : Option Int :=
  bnd (q6 N Zy) fun x1 =>
  br ((x1 != (0 : Int))) (
  some x1) (
  br (((Zu.length : Int) == (0 : Int))) (
  some (10 : Int)) (
  br (decide ((Zu.length : Int) > (6 : Int))) (
  some (8 : Int)) (
  jn (τ := Unit) (fun (_ : Unit) =>
    br (((Zx.length : Int) == (0 : Int))) (
    some (10 : Int)) (
    br (decide ((Zx.length : Int) > (12 : Int))) (
    some (8 : Int)) (
    jn (τ := Unit) (fun (_ : Unit) =>
      bnd (k4 N Zv (0 : Int) (3000 : Int)) fun x6 =>
      bnd (grd x6 false (k4 N Zz (0 : Int) (100 : Int))) fun x7 =>
      bnd (grd (!((!x6) || (!x7))) false (k4 N Zw (-2000 : Int) (1000 : Int))) fun x8 =>
      br ((((!x6) || (!x7)) || (!x8))) (
      some (2 : Int)) (
      some (0 : Int))) fun K_1 =>
    rds (s7 N Zx K_1) N (0 : Int)))) fun K_ =>
  rds (s8 N Zy Zu K_) N ((0 : Int), ([] : List ByteArray)))))

def base_Has.b1 (N : Nat) (l : List Int) (n : Int) (K_ : Unit → Option Bool) (rec : Int → Option Bool) : Int → Option Bool := fun i =>
  br (decide (i < (l.length : Int))) (
  chk (0 ≤ i ∧ i < (l.length : Int)) <|
  br (((l.getD i.toNat 0) == n)) (
  some true) (
  rec (w64 (i + (1 : Int))))) (
  K_ ())
def base_Has (N : Nat) (l : List Int) (n : Int) : Option Bool :=
  jn (τ := Unit) (fun (_ : Unit) =>
    some false) fun K_ =>
  rds (base_Has.b1 N l n K_) N (0 : Int)

def s6 (N : Nat) (Zu : List (ByteArray × Int × Int × Int × Int × Int × Int)) (set : List Int) (K_ : List Bool → Option (List Bool)) (rec : Int × List Bool → Option (List Bool)) : Int × List Bool → Option (List Bool) := fun (i, b11) =>
  br (decide (i < (Zu.length : Int))) (
  bnd (base_Has N set i) fun x1 =>
  chk (b11.length + ([!x1] : List Bool).length ≤ 1000000000) <|
  rec (w64 (i + (1 : Int)), (b11 ++ ([!x1] : List Bool)))) (
  K_ b11)
def ref09_Without (N : Nat) (Zy : List (List Int)) (Zu : List (ByteArray × Int × Int × Int × Int × Int × Int)) (Zx : List (Int × Int)) (Zv : Int) (Zz : Int) (Zw : Int) (set : List Int) : Option (List Bool) :=
  jn (τ := List Bool) (fun (b1 : List Bool) =>
    some b1) fun K_ =>
  rds (s6 N Zu set K_) N ((0 : Int), ([] : List Bool))

def C1 (N : Nat) (n : Int) : Option Int :=
  some (if n < w64 (0 - n) then w64 (0 - n) else n)

def ref09_Steps (N : Nat) (a_0 : Int) (a_1 : Int) (b_0 : Int) (b_1 : Int) : Option Int :=
  bnd (C1 N (w64 (a_0 - b_0))) fun x1 =>
  bnd (C1 N (w64 (a_1 - b_1))) fun x2 =>
  some (if x1 < x2 then x2 else x1)

def base_Floor (N : Nat) (n : Int) (by_ : Int) : Option Int :=
  chk (by_ ≠ 0) <|
  chk (by_ ≠ 0) <|
  br (decide (n.tmod by_ < (0 : Int))) (
  some (w64 ((w64 (n.tdiv by_)) - (1 : Int)))) (
  some (w64 (n.tdiv by_)))

def B1 (N : Nat) (Z10 : List (List Int)) (Z8 : Int) (Z9 : Int) (Zb : Int) (at_0 : Int) (at_1 : Int) (x1 : Int) (K_ : Unit → Option Bool) (rec : Int → Option Bool) : Int → Option Bool := fun k =>
  br (decide (k < x1)) (
  bnd (base_Floor N (w64 ((w64 ((w64 ((2 : Int) * (w64 (at_0 - Z8)))) * k)) + x1)) (w64 ((2 : Int) * x1))) fun x2 =>
  bnd (base_Floor N (w64 ((w64 ((w64 ((2 : Int) * (w64 (at_1 - Z9)))) * k)) + x1)) (w64 ((2 : Int) * x1))) fun x3 =>
  chk (0 ≤ w64 (Z8 + x2) ∧ w64 (Z8 + x2) < (Z10.length : Int)) <|
  chk (0 ≤ w64 (Z9 + x3) ∧ w64 (Z9 + x3) < ((Z10.getD ((w64 (Z8 + x2)).toNat) default).length : Int)) <|
  br (decide (w64 (x1 * ((Z10.getD ((w64 (Z8 + x2)).toNat) default).getD ((w64 (Z9 + x3)).toNat) 0)) > w64 ((w64 ((w64 (x1 - k)) * (w64 (((Z10.getD Z8.toNat default).getD Z9.toNat 0) + Zb)))) + (w64 (k * (w64 (((Z10.getD at_0.toNat default).getD at_1.toNat 0) + (2 : Int)))))))) (
  some false) (
  rec (w64 (k + (1 : Int))))) (
  K_ ())
def ref09_Sees (N : Nat) (Z10 : List (List Int)) (Zc : ByteArray) (Za : Int) (Z8 : Int) (Z9 : Int) (Zb : Int) (Zd : Int) (Ze : Int) (at_0 : Int) (at_1 : Int) : Option Bool :=
  bnd (ref09_Steps N Z8 Z9 at_0 at_1) fun x1 =>
  chk (0 ≤ Z8 ∧ Z8 < (Z10.length : Int)) <|
  chk (0 ≤ Z9 ∧ Z9 < ((Z10.getD Z8.toNat default).length : Int)) <|
  chk (0 ≤ at_0 ∧ at_0 < (Z10.length : Int)) <|
  chk (0 ≤ at_1 ∧ at_1 < ((Z10.getD at_0.toNat default).length : Int)) <|
  jn (τ := Unit) (fun (_ : Unit) =>
    some true) fun K_ =>
  rds (B1 N Z10 Z8 Z9 Zb at_0 at_1 x1 K_) N (1 : Int)

def t0 (N : Nat) (Zy : List (List Int)) (Zu : List (ByteArray × Int × Int × Int × Int × Int × Int)) (Zx : List (Int × Int)) (Zv : Int) (Zz : Int) (cell : Int) (at_0 : Int) (at_1 : Int) (K_ : Unit → Option (Int × Bool)) (rec : Int → Option (Int × Bool)) : Int → Option (Int × Bool) := fun i =>
  br (decide (i < (Zx.length : Int))) (
  chk (0 ≤ i ∧ i < (Zx.length : Int)) <|
  br (decide ((Zx.getD i.toNat default).1 < w64 ((w64 ((w64 (at_0 - ((Zu.getD cell.toNat default).2.2.1))) * (w64 (at_0 - ((Zu.getD cell.toNat default).2.2.1))))) + (w64 ((w64 (at_1 - ((Zu.getD cell.toNat default).2.2.2.1))) * (w64 (at_1 - ((Zu.getD cell.toNat default).2.2.2.1)))))))) (
  rec (w64 (i + (1 : Int)))) (
  chk (0 ≤ i ∧ i < (Zx.length : Int)) <|
  bnd (ref09_Steps N ((Zu.getD cell.toNat default).2.2.1) ((Zu.getD cell.toNat default).2.2.2.1) at_0 at_1) fun x1 =>
  bnd (C1 N (w64 ((w64 ((12 : Int) - ((Zu.getD cell.toNat default).2.2.2.2.2.2))) - x1))) fun x2 =>
  bnd (ref09_Sees N Zy ((Zu.getD cell.toNat default).1) ((Zu.getD cell.toNat default).2.1) ((Zu.getD cell.toNat default).2.2.1) ((Zu.getD cell.toNat default).2.2.2.1) ((Zu.getD cell.toNat default).2.2.2.2.1) ((Zu.getD cell.toNat default).2.2.2.2.2.1) ((Zu.getD cell.toNat default).2.2.2.2.2.2) at_0 at_1) fun x3 =>
  br (!x3) (
  some (w64 ((w64 ((w64 (((Zu.getD cell.toNat default).2.2.2.2.2.1) - ((Zx.getD i.toNat default).2))) - (w64 (Zz * x2)))) - Zv), true)) (
  some (w64 ((w64 (((Zu.getD cell.toNat default).2.2.2.2.2.1) - ((Zx.getD i.toNat default).2))) - (w64 (Zz * x2))), true)))) (
  K_ ())
def ref09_LevelAt (N : Nat) (Zy : List (List Int)) (Zu : List (ByteArray × Int × Int × Int × Int × Int × Int)) (Zx : List (Int × Int)) (Zv : Int) (Zz : Int) (Zw : Int) (cell : Int) (at_0 : Int) (at_1 : Int) : Option (Int × Bool) :=
  chk (0 ≤ cell ∧ cell < (Zu.length : Int)) <|
  jn (τ := Unit) (fun (_ : Unit) =>
    some ((0 : Int), false)) fun K_ =>
  rds (t0 N Zy Zu Zx Zv Zz cell at_0 at_1 K_) N (0 : Int)

def q5 (N : Nat) (Zy : List (List Int)) (Zu : List (ByteArray × Int × Int × Int × Int × Int × Int)) (Zx : List (Int × Int)) (Zv : Int) (Zz : Int) (Zw : Int) (on : List Bool) (at_0 : Int) (at_1 : Int) (K_ : Int × Int × Bool → Option (Int × Int × Bool)) (rec : Int × Int × Bool × Int → Option (Int × Int × Bool)) : Int × Int × Bool × Int → Option (Int × Int × Bool) := fun (cell1, most1, some_1, i) =>
  br (decide (i < (Zu.length : Int))) (
  bnd (ref09_LevelAt N Zy Zu Zx Zv Zz Zw i at_0 at_1) fun (x1, x11) =>
  chk (0 ≤ i ∧ i < (on.length : Int)) <|
  br ((((on.getD i.toNat default) && x11) && ((!some_1) || (decide (x1 > most1))))) (
  rec (i, x1, true, w64 (i + (1 : Int)))) (
  rec (cell1, most1, some_1, w64 (i + (1 : Int))))) (
  K_ (cell1, most1, some_1))
def ref09_ServerAt (N : Nat) (Zy : List (List Int)) (Zu : List (ByteArray × Int × Int × Int × Int × Int × Int)) (Zx : List (Int × Int)) (Zv : Int) (Zz : Int) (Zw : Int) (on : List Bool) (at_0 : Int) (at_1 : Int) : Option (Int × Int × Bool) :=
  jn (τ := Int × Int × Bool) (fun (cell, most, some_) =>
    some (cell, most, some_)) fun K_ =>
  rds (q5 N Zy Zu Zx Zv Zz Zw on at_0 at_1 K_) N ((0 : Int), (0 : Int), false, (0 : Int))

def v7 (N : Nat) (Zj : List (List Int)) (Zf : List (ByteArray × Int × Int × Int × Int × Int × Int)) (Zi : List (Int × Int)) (Zg : Int) (Zk : Int) (Zh : Int) (f_width : Int) (f_levels : List (List (Int × Bool))) (l_n : Int) (l_is : Bool) : Option Bool :=
  some (l_is && (decide (l_n ≥ Zh)))

def B2 (N : Nat) (l : List (Int × Int × Int)) : Option (List (Int × Int × Int)) :=
  chk (l.length ≤ 1000000000) <|
  some l

def w5 (N : Nat) (Zy : List (List Int)) (l : List (Int × Int × Int)) (K_ : Unit → Option (Int × Int × Int × Int × Int × Int)) (rec : Unit → Option (Int × Int × Int × Int × Int × Int)) : Unit → Option (Int × Int × Int × Int × Int × Int) := fun _ =>
  br (decide ((0 : Int) < (l.length : Int))) (
  chk (0 ≤ (0 : Int) ∧ (0 : Int) < (l.length : Int)) <|
  bnd (s3 N Zy ((l.getD 0 default).1) ((l.getD 0 default).2.1)) fun x5 =>
  bnd (p3 N ((l.getD 0 default).2.2)) fun x6 =>
  bnd (g9 N x6 (2 : Int)) fun x7 =>
  bnd (plan_first N ([x5, x7] : List Int)) fun x8 =>
  br ((x8 != (0 : Int))) (
  some ((0 : Int), (0 : Int), (0 : Int), (0 : Int), (0 : Int), x8)) (
  none)) (
  K_ ())
def p9 (N : Nat) (Zy : List (List Int)) (Zu : List (ByteArray × Int × Int × Int × Int × Int × Int)) (Zx : List (Int × Int)) (Zv : Int) (Zz : Int) (Zw : Int) (K_1 : (List (List (Int × Bool))) → Option (Int × Int × Int × Int × Int × Int)) (rec1 : Int × (List (List (Int × Bool))) → Option (Int × Int × Int × Int × Int × Int)) : Int × (List (List (Int × Bool))) → Option (Int × Int × Int × Int × Int × Int) := fun (t25, b41) =>
  br (decide (t25 < (Zu.length : Int))) (
  chk (0 ≤ t25 ∧ t25 < (Zu.length : Int)) <|
  bnd (plan_field_of N Zy Zu Zx Zv Zz Zw ((Zy.getD 0 default).length : Int) b41 ((Zu.getD t25.toNat default).1) ((Zu.getD t25.toNat default).2.1) ((Zu.getD t25.toNat default).2.2.1) ((Zu.getD t25.toNat default).2.2.2.1) ((Zu.getD t25.toNat default).2.2.2.2.1) ((Zu.getD t25.toNat default).2.2.2.2.2.1) ((Zu.getD t25.toNat default).2.2.2.2.2.2)) fun x9 =>
  chk (b41.length + ([x9] : List (List (Int × Bool))).length ≤ 1000000000) <|
  rec1 (w64 (t25 + (1 : Int)), (b41 ++ ([x9] : List (List (Int × Bool)))))) (
  K_1 b41)
def o3 (N : Nat) (Zy : List (List Int)) (Zu : List (ByteArray × Int × Int × Int × Int × Int × Int)) (Zx : List (Int × Int)) (Zv : Int) (Zz : Int) (Zw : Int) (l : List (Int × Int × Int)) (b4 : List (List (Int × Bool))) (K_2 : Int × Int × Int × Int × Int → Option (Int × Int × Int × Int × Int × Int)) (rec2 : Int × Int × Int × Int × Int × Int → Option (Int × Int × Int × Int × Int × Int)) : Int × Int × Int × Int × Int × Int → Option (Int × Int × Int × Int × Int × Int) := fun (sum1, count1, t41, b63, b64, b65) =>
  br (decide (t41 < (l.length : Int))) (
  chk (0 ≤ t41 ∧ t41 < (l.length : Int)) <|
  bnd (s3 N Zy ((l.getD t41.toNat default).1) ((l.getD t41.toNat default).2.1)) fun x13 =>
  bnd (p3 N ((l.getD t41.toNat default).2.2)) fun x14 =>
  bnd (g9 N x14 (2 : Int)) fun x15 =>
  bnd (plan_first N ([x13, x15] : List Int)) fun x16 =>
  br ((x16 != (0 : Int))) (
  some ((0 : Int), (0 : Int), (0 : Int), (0 : Int), (0 : Int), x16)) (
  bnd (v6 N Zy Zu Zx Zv Zz Zw ((Zy.getD 0 default).length : Int) b4 ((l.getD t41.toNat default).1) ((l.getD t41.toNat default).2.1)) fun x17 =>
  bnd (plan_field_server N Zy Zu Zx Zv Zz Zw ((Zy.getD 0 default).length : Int) b4 x17) fun (x18, x181, x182) =>
  br (!x182) (
  rec2 (sum1, count1, w64 (t41 + (1 : Int)), b63, b64, b65)) (
  jn (τ := Int × Int) (fun (b66, b67) =>
    bnd (grd (decide ((l.getD t41.toNat default).2.2 < Zw)) false (v7 N Zy Zu Zx Zv Zz Zw ((Zy.getD 0 default).length : Int) b4 x181 x182)) fun x19 =>
    br (((decide ((l.getD t41.toNat default).2.2 < Zw)) && x19)) (
    rec2 (w64 (sum1 + (w64 (((l.getD t41.toNat default).2.2) - x181))), w64 (count1 + (1 : Int)), w64 (t41 + (1 : Int)), (if w64 (((l.getD t41.toNat default).2.2) - x181) < b66 then w64 (((l.getD t41.toNat default).2.2) - x181) else b66), (if b67 < w64 (((l.getD t41.toNat default).2.2) - x181) then w64 (((l.getD t41.toNat default).2.2) - x181) else b67), w64 (b65 + (1 : Int)))) (
    rec2 (w64 (sum1 + (w64 (((l.getD t41.toNat default).2.2) - x181))), w64 (count1 + (1 : Int)), w64 (t41 + (1 : Int)), (if w64 (((l.getD t41.toNat default).2.2) - x181) < b66 then w64 (((l.getD t41.toNat default).2.2) - x181) else b66), (if b67 < w64 (((l.getD t41.toNat default).2.2) - x181) then w64 (((l.getD t41.toNat default).2.2) - x181) else b67), b65))) fun K_3 =>
  br ((count1 == (0 : Int))) (
  K_3 (w64 (((l.getD t41.toNat default).2.2) - x181), w64 (((l.getD t41.toNat default).2.2) - x181))) (
  K_3 (b63, b64))))) (
  K_2 (sum1, count1, b63, b64, b65))
def w4 (N : Nat) (K_4 : Int → Option (Int × Int × Int × Int × Int × Int)) (rec3 : Int × Int → Option (Int × Int × Int × Int × Int × Int)) : Int × Int → Option (Int × Int × Int × Int × Int × Int) := fun (g1, n) =>
  br ((n != (0 : Int))) (
  chk (n ≠ 0) <|
  rec3 (n, g1.tmod n)) (
  K_4 g1)
def plan_CompareDrive (N : Nat) (Zy : List (List Int)) (Zu : List (ByteArray × Int × Int × Int × Int × Int × Int)) (Zx : List (Int × Int)) (Zv : Int) (Zz : Int) (Zw : Int) (l : List (Int × Int × Int)) : Option (Int × Int × Int × Int × Int × Int) :=
  bnd (plan_planErr N Zy Zu Zx Zv Zz Zw) fun x1 =>
  br ((x1 != (0 : Int))) (
  bnd (g9 N (decide ((l.length : Int) > (0 : Int))) (10 : Int)) fun x2 =>
  bnd (g9 N (decide ((l.length : Int) ≤ (60 : Int))) (8 : Int)) fun x3 =>
  bnd (plan_first N ([x1, x2, x3] : List Int)) fun x4 =>
  br ((x4 != (0 : Int))) (
  some ((0 : Int), (0 : Int), (0 : Int), (0 : Int), (0 : Int), x4)) (
  jn (τ := Unit) (fun (_ : Unit) =>
    some ((0 : Int), (0 : Int), (0 : Int), (0 : Int), (0 : Int), (12 : Int))) fun K_ =>
  rds (w5 N Zy l K_) N ())) (
  chk (0 ≤ (0 : Int) ∧ (0 : Int) < (Zy.length : Int)) <|
  jn (τ := (List (List (Int × Bool)))) (fun (b4 : (List (List (Int × Bool)))) =>
    bnd (g9 N (decide ((l.length : Int) > (0 : Int))) (10 : Int)) fun x10 =>
    bnd (g9 N (decide ((l.length : Int) ≤ (60 : Int))) (8 : Int)) fun x11 =>
    bnd (plan_first N ([(0 : Int), x10, x11] : List Int)) fun x12 =>
    br ((x12 != (0 : Int))) (
    some ((0 : Int), (0 : Int), (0 : Int), (0 : Int), (0 : Int), x12)) (
    jn (τ := Int × Int × Int × Int × Int) (fun (sum, count, b6, b61, b62) =>
      br ((count == (0 : Int))) (
      some ((0 : Int), (0 : Int), (0 : Int), (0 : Int), (0 : Int), (12 : Int))) (
      jn (τ := Int) (fun (g : Int) =>
        chk (g ≠ 0) <|
        chk (g ≠ 0) <|
        some (b6, b61, w64 (sum.tdiv g), w64 (count.tdiv g), b62, (0 : Int))) fun K_4 =>
      bnd (plan_size N sum) fun x20 =>
      rds (w4 N K_4) N (count, x20))) fun K_2 =>
    rds (o3 N Zy Zu Zx Zv Zz Zw l b4 K_2) N ((0 : Int), (0 : Int), (0 : Int), (0 : Int), (0 : Int), (0 : Int)))) fun K_1 =>
  rds (p9 N Zy Zu Zx Zv Zz Zw K_1) N ((0 : Int), ([] : List (List (Int × Bool)))))

def q7 (N : Nat) (Zy : List (List Int)) (l : List (Int × Int × Int)) (K_ : Unit → Option Int) (rec : Int → Option Int) : Int → Option Int := fun i =>
  br (decide (i < (l.length : Int))) (
  chk (0 ≤ i ∧ i < (l.length : Int)) <|
  bnd (t4 N Zy ((l.getD i.toNat default).1) ((l.getD i.toNat default).2.1)) fun x1 =>
  br ((x1 != (0 : Int))) (
  some x1) (
  chk (0 ≤ i ∧ i < (l.length : Int)) <|
  bnd (k4 N ((l.getD i.toNat default).2.2) (-2000 : Int) (1000 : Int)) fun x2 =>
  br (!x2) (
  some (2 : Int)) (
  rec (w64 (i + (1 : Int)))))) (
  K_ ())
def ref09_DriveErr (N : Nat) (Zy : List (List Int)) (Zu : List (ByteArray × Int × Int × Int × Int × Int × Int)) (Zx : List (Int × Int)) (Zv : Int) (Zz : Int) (Zw : Int) (l : List (Int × Int × Int)) : Option Int :=
  br (((l.length : Int) == (0 : Int))) (
  some (10 : Int)) (
  br (decide ((l.length : Int) > (60 : Int))) (
  some (8 : Int)) (
  jn (τ := Unit) (fun (_ : Unit) =>
    some (0 : Int)) fun K_ =>
  rds (q7 N Zy l K_) N (0 : Int)))

def base_Gcd.b1 (N : Nat) (K_ : Int → Option Int) (rec : Int × Int → Option Int) : Int × Int → Option Int := fun (a2, b1) =>
  br ((b1 != (0 : Int))) (
  chk (b1 ≠ 0) <|
  rec (b1, a2.tmod b1)) (
  K_ a2)
def base_Gcd (N : Nat) (a : Int) (b : Int) : Option Int :=
  jn (τ := Int) (fun (a1 : Int) =>
    bnd (C1 N a1) fun x1 =>
    some x1) fun K_ =>
  rds (base_Gcd.b1 N K_) N (a, b)

def base_Lowest (N : Nat) (num : Int) (den : Int) : Option (Int × Int) :=
  bnd (base_Gcd N num den) fun x1 =>
  br (decide (den < (0 : Int))) (
  chk (w64 (0 - x1) ≠ 0) <|
  chk (w64 (0 - x1) ≠ 0) <|
  some (w64 (num.tdiv (w64 (0 - x1))), w64 (den.tdiv (w64 (0 - x1))))) (
  chk (x1 ≠ 0) <|
  chk (x1 ≠ 0) <|
  some (w64 (num.tdiv x1), w64 (den.tdiv x1)))

def l9 (N : Nat) (Zy : List (List Int)) (Zu : List (ByteArray × Int × Int × Int × Int × Int × Int)) (Zx : List (Int × Int)) (Zv : Int) (Zz : Int) (Zw : Int) (l : List (Int × Int × Int)) (K_ : Int × Int × Int × Int × Int → Option (Int × Int × Int × Int × Int × Bool)) (rec : Int × Int × Int × Int × Int × Int → Option (Int × Int × Int × Int × Int × Bool)) : Int × Int × Int × Int × Int × Int → Option (Int × Int × Int × Int × Int × Bool) := fun (sum1, count1, i, b23, b24, b25) =>
  br (decide (i < (l.length : Int))) (
  bnd (ref09_Without N Zy Zu Zx Zv Zz Zw ([] : List Int)) fun x1 =>
  chk (0 ≤ i ∧ i < (l.length : Int)) <|
  bnd (ref09_ServerAt N Zy Zu Zx Zv Zz Zw x1 ((l.getD i.toNat default).1) ((l.getD i.toNat default).2.1)) fun (x2, x21, x22) =>
  br (!x22) (
  rec (sum1, count1, w64 (i + (1 : Int)), b23, b24, b25)) (
  chk (0 ≤ i ∧ i < (l.length : Int)) <|
  jn (τ := Int × Int) (fun (b26, b27) =>
    chk ((decide (x21 ≥ Zw)) = true → 0 ≤ i ∧ i < (l.length : Int)) <|
    br (((decide (x21 ≥ Zw)) && (decide ((l.getD i.toNat default).2.2 < Zw)))) (
    rec (w64 (sum1 + (w64 (((l.getD i.toNat default).2.2) - x21))), w64 (count1 + (1 : Int)), w64 (i + (1 : Int)), (if w64 (((l.getD i.toNat default).2.2) - x21) < b26 then w64 (((l.getD i.toNat default).2.2) - x21) else b26), (if b27 < w64 (((l.getD i.toNat default).2.2) - x21) then w64 (((l.getD i.toNat default).2.2) - x21) else b27), w64 (b25 + (1 : Int)))) (
    rec (w64 (sum1 + (w64 (((l.getD i.toNat default).2.2) - x21))), w64 (count1 + (1 : Int)), w64 (i + (1 : Int)), (if w64 (((l.getD i.toNat default).2.2) - x21) < b26 then w64 (((l.getD i.toNat default).2.2) - x21) else b26), (if b27 < w64 (((l.getD i.toNat default).2.2) - x21) then w64 (((l.getD i.toNat default).2.2) - x21) else b27), b25))) fun K_1 =>
  br ((count1 == (0 : Int))) (
  K_1 (w64 (((l.getD i.toNat default).2.2) - x21), w64 (((l.getD i.toNat default).2.2) - x21))) (
  K_1 (b23, b24)))) (
  K_ (sum1, count1, b23, b24, b25))
def ref09_CompareDrive (N : Nat) (Zy : List (List Int)) (Zu : List (ByteArray × Int × Int × Int × Int × Int × Int)) (Zx : List (Int × Int)) (Zv : Int) (Zz : Int) (Zw : Int) (l : List (Int × Int × Int)) : Option (Int × Int × Int × Int × Int × Bool) :=
  jn (τ := Int × Int × Int × Int × Int) (fun (sum, count, b2, b21, b22) =>
    br ((count == (0 : Int))) (
    some ((0 : Int), (0 : Int), (0 : Int), (0 : Int), (0 : Int), false)) (
    bnd (base_Lowest N sum count) fun (x3, x31) =>
    some (b2, b21, x3, x31, b22, true))) fun K_ =>
  rds (l9 N Zy Zu Zx Zv Zz Zw l K_) N ((0 : Int), (0 : Int), (0 : Int), (0 : Int), (0 : Int), (0 : Int))

def z6 (N : Nat) (Zy : List (List Int)) (Zu : List (ByteArray × Int × Int × Int × Int × Int × Int)) (Zx : List (Int × Int)) (Zv : Int) (Zz : Int) (Zw : Int) (l : List (Int × Int × Int)) : Option Bool :=
  bnd (law09_awake N ) fun x1 =>
  br (!x1) (
  some false) (
  bnd (law09_Few N Zy Zu Zx Zv Zz Zw) fun x2 =>
  br ((((!x2) || ((decide ((l.length : Int) > (8 : Int))) && (decide ((l.length : Int) ≤ (60 : Int))))) || (decide ((l.length : Int) > (62 : Int))))) (
  some true) (
  bnd (ref09_Copy N Zy Zu Zx Zv Zz Zw) fun (x3, x31, x32, x33, x34, x35) =>
  bnd (B2 N l) fun x4 =>
  bnd (plan_CompareDrive N x3 x31 x32 x33 x34 x35 x4) fun (x5, x51, x52, x53, x54, x55) =>
  bnd (ref09_PlanErr N Zy Zu Zx Zv Zz Zw) fun x6 =>
  jn (τ := Int) (fun (d : Int) =>
    br ((d != (0 : Int))) (
    some ((x55 == d) && (Bool.and (x5 == (0 : Int)) (Bool.and (x51 == (0 : Int)) (Bool.and (x52 == (0 : Int)) (Bool.and (x53 == (0 : Int)) (x54 == (0 : Int)))))))) (
    bnd (ref09_CompareDrive N Zy Zu Zx Zv Zz Zw l) fun (x8, x81, x82, x83, x84, x85) =>
    some (((x85 && (x55 == (0 : Int))) && (Bool.and (x5 == x8) (Bool.and (x51 == x81) (Bool.and (x52 == x82) (Bool.and (x53 == x83) (x54 == x84)))))) || (((!x85) && (x55 == (12 : Int))) && (Bool.and (x5 == (0 : Int)) (Bool.and (x51 == (0 : Int)) (Bool.and (x52 == (0 : Int)) (Bool.and (x53 == (0 : Int)) (x54 == (0 : Int)))))))))) fun K_ =>
  br ((x6 == (0 : Int))) (
  bnd (ref09_DriveErr N Zy Zu Zx Zv Zz Zw l) fun x7 =>
  K_ x7) (
  K_ x6)))
end
end Go.Sh
