import Derived.Test.YtklejiafioalnaaGreatZsH
set_option linter.all false
namespace Go.Sh
open Go.PW
noncomputable section
def law09_raster.b1 (N : Nat) (Z10 : List (List Int)) (K_ : Unit → Option Bool) (rec : Int → Option Bool) : Int → Option Bool := fun i =>
  br (decide (i < (Z10.length : Int))) (
  chk (0 ≤ i ∧ i < (Z10.length : Int)) <|
  chk ((decide (((Z10.getD i.toNat default).length : Int) > (5 : Int))) = true → 0 ≤ i ∧ i < (Z10.length : Int)) <|
  chk ((!((decide (((Z10.getD i.toNat default).length : Int) > (5 : Int))) && (decide (((Z10.getD i.toNat default).length : Int) ≤ (12 : Int))))) = true → 0 ≤ i ∧ i < (Z10.length : Int)) <|
  br ((((decide (((Z10.getD i.toNat default).length : Int) > (5 : Int))) && (decide (((Z10.getD i.toNat default).length : Int) ≤ (12 : Int)))) || (decide (((Z10.getD i.toNat default).length : Int) > (14 : Int))))) (
  some false) (
  rec (w64 (i + (1 : Int))))) (
  K_ ())
def law09_raster (N : Nat) (Z10 : List (List Int)) : Option Bool :=
  br ((((decide ((Z10.length : Int) > (5 : Int))) && (decide ((Z10.length : Int) ≤ (12 : Int)))) || (decide ((Z10.length : Int) > (14 : Int))))) (
  some false) (
  jn (τ := Unit) (fun (_ : Unit) =>
    some true) fun K_ =>
  rds (law09_raster.b1 N Z10 K_) N (0 : Int))

def law09_Few.b1 (N : Nat) (Zu : List (ByteArray × Int × Int × Int × Int × Int × Int)) (K_ : Unit → Option Bool) (rec : Int → Option Bool) : Int → Option Bool := fun i =>
  br (decide (i < (Zu.length : Int))) (
  chk (0 ≤ i ∧ i < (Zu.length : Int)) <|
  br (decide ((((Zu.getD i.toNat default).1).size : Int) > (20 : Int))) (
  some false) (
  rec (w64 (i + (1 : Int))))) (
  K_ ())
def law09_Few (N : Nat) (Zy : List (List Int)) (Zu : List (ByteArray × Int × Int × Int × Int × Int × Int)) (Zx : List (Int × Int)) (Zv : Int) (Zz : Int) (Zw : Int) : Option Bool :=
  bnd (law09_raster N Zy) fun x1 =>
  br ((((((!x1) || ((decide ((Zu.length : Int) > (3 : Int))) && (decide ((Zu.length : Int) ≤ (6 : Int))))) || (decide ((Zu.length : Int) > (8 : Int)))) || ((decide ((Zx.length : Int) > (5 : Int))) && (decide ((Zx.length : Int) ≤ (12 : Int))))) || (decide ((Zx.length : Int) > (14 : Int))))) (
  some false) (
  jn (τ := Unit) (fun (_ : Unit) =>
    some true) fun K_ =>
  rds (law09_Few.b1 N Zu K_) N (0 : Int))

def base_CopyInts (N : Nat) (l : List Int) : Option (List Int) :=
  chk (([] : List Int).length + l.length ≤ 1000000000) <|
  some (([] : List Int) ++ l)

def base_CopyLists.b1 (N : Nat) (l : List (List Int)) (K_ : List (List Int) → Option (List (List Int))) (rec : Int × List (List Int) → Option (List (List Int))) : Int × List (List Int) → Option (List (List Int)) := fun (i, b01) =>
  br (decide (i < (l.length : Int))) (
  chk (0 ≤ i ∧ i < (l.length : Int)) <|
  bnd (base_CopyInts N (l.getD i.toNat default)) fun x1 =>
  chk (b01.length + ([x1] : List (List Int)).length ≤ 1000000000) <|
  rec (w64 (i + (1 : Int)), (b01 ++ ([x1] : List (List Int))))) (
  K_ b01)
def base_CopyLists (N : Nat) (l : List (List Int)) : Option (List (List Int)) :=
  jn (τ := List (List Int)) (fun (b0 : List (List Int)) =>
    some b0) fun K_ =>
  rds (base_CopyLists.b1 N l K_) N ((0 : Int), ([] : List (List Int)))

def ref09_CopyRaster (N : Nat) (Z10 : List (List Int)) : Option (List (List Int)) :=
  bnd (base_CopyLists N Z10) fun x1 =>
  some x1

def ref09_Copy (N : Nat) (Zy : List (List Int)) (Zu : List (ByteArray × Int × Int × Int × Int × Int × Int)) (Zx : List (Int × Int)) (Zv : Int) (Zz : Int) (Zw : Int) : Option (List (List Int) × (List (ByteArray × Int × Int × Int × Int × Int × Int)) × (List (Int × Int)) × Int × Int × Int) :=
  bnd (ref09_CopyRaster N Zy) fun x1 =>
  chk (Zu.length ≤ 1000000000) <|
  chk (Zx.length ≤ 1000000000) <|
  some (x1, Zu, Zx, Zv, Zz, Zw)

def plan_unless (N : Nat) (ok : Bool) (e : Int) : Option Int :=
  br (ok) (
  some (0 : Int)) (
  some e)

def plan_first.b1 (N : Nat) (l : List Int) (K_ : Unit → Option Int) (rec : Int → Option Int) : Int → Option Int := fun t7 =>
  br (decide (t7 < (l.length : Int))) (
  chk (0 ≤ t7 ∧ t7 < (l.length : Int)) <|
  br (((l.getD t7.toNat 0) != (0 : Int))) (
  some (l.getD t7.toNat 0)) (
  rec (w64 (t7 + (1 : Int))))) (
  K_ ())
def plan_first (N : Nat) (l : List Int) : Option Int :=
  jn (τ := Unit) (fun (_ : Unit) =>
    some (0 : Int)) fun K_ =>
  rds (plan_first.b1 N l K_) N (0 : Int)

def slices_IndexFunc_ii.b1 (N : Nat) (s : List Int) (f : Int → Option Bool) (K_ : Unit → Option Int) (rec : Int → Option Int) : Int → Option Int := fun t8 =>
  br (decide (t8 < (s.length : Int))) (
  chk (0 ≤ t8 ∧ t8 < (s.length : Int)) <|
  bnd (f (s.getD t8.toNat 0)) fun x1 =>
  br (x1) (
  some t8) (
  rec (w64 (t8 + (1 : Int))))) (
  K_ ())
def slices_IndexFunc_ii (N : Nat) (s : List Int) (f : Int → Option Bool) : Option Int :=
  jn (τ := Unit) (fun (_ : Unit) =>
    some (-1 : Int)) fun K_ =>
  rds (slices_IndexFunc_ii.b1 N s f K_) N (0 : Int)

def plan_within (N : Nat) (n : Int) (lo : Int) (hi : Int) : Option Bool :=
  some ((decide (lo ≤ n)) && (decide (n ≤ hi)))

def plan_CheckRaster_1 (N : Nat) (n : Int) : Option Bool :=
  bnd (plan_within N n (0 : Int) (5000 : Int)) fun x1 =>
  some (!x1)

def plan_CheckRaster.b1 (N : Nat) (Z10 : List (List Int)) (K_ : Unit → Option (Int × Int × Int)) (rec : Int → Option (Int × Int × Int)) : Int → Option (Int × Int × Int) := fun t28 =>
  br (decide (t28 < (Z10.length : Int))) (
  chk (0 ≤ t28 ∧ t28 < (Z10.length : Int)) <|
  chk ((decide (((Z10.getD t28.toNat default).length : Int) > (0 : Int))) = true → 0 ≤ (0 : Int) ∧ (0 : Int) < (Z10.length : Int)) <|
  bnd (plan_unless N ((decide (((Z10.getD t28.toNat default).length : Int) > (0 : Int))) && (((Z10.getD t28.toNat default).length : Int) == ((Z10.getD 0 default).length : Int))) (10 : Int)) fun x4 =>
  bnd (plan_unless N (decide (((Z10.getD t28.toNat default).length : Int) ≤ (12 : Int))) (8 : Int)) fun x5 =>
  bnd (plan_first N ([x4, x5] : List Int)) fun x6 =>
  br ((x6 != (0 : Int))) (
  some (t28, (0 : Int), x6)) (
  bnd (slices_IndexFunc_ii N (Z10.getD t28.toNat default) (fun y0 => plan_CheckRaster_1 N y0)) fun x7 =>
  br (decide (x7 ≥ (0 : Int))) (
  some (t28, x7, (2 : Int))) (
  rec (w64 (t28 + (1 : Int)))))) (
  K_ ())
def plan_CheckRaster (N : Nat) (Z10 : List (List Int)) : Option (Int × Int × Int) :=
  bnd (plan_unless N (decide ((Z10.length : Int) > (0 : Int))) (10 : Int)) fun x1 =>
  bnd (plan_unless N (decide ((Z10.length : Int) ≤ (12 : Int))) (8 : Int)) fun x2 =>
  bnd (plan_first N ([x1, x2] : List Int)) fun x3 =>
  br ((x3 != (0 : Int))) (
  some ((0 : Int), (0 : Int), x3)) (
  jn (τ := Unit) (fun (_ : Unit) =>
    some ((0 : Int), (0 : Int), (0 : Int))) fun K_ =>
  rds (plan_CheckRaster.b1 N Z10 K_) N (0 : Int))

def plan_rasterErr (N : Nat) (Z10 : List (List Int)) : Option Int :=
  bnd (plan_CheckRaster N Z10) fun (x1, x11, x12) =>
  some x12

def plan_planErr_1 (N : Nat) (Zr : ByteArray) (Zp : Int) (Zn : Int) (Zo : Int) (Zq : Int) (Zs : Int) (Zt : Int) (Z4 : ByteArray) (Z2 : Int) (Z0 : Int) (Z1 : Int) (Z3 : Int) (Z5 : Int) (Z7 : Int) : Option Bool :=
  some (Zr.toList == Z4.toList)

def slices_IndexFunc_api_PlanCell_api_PlanCell.b1 (N : Nat) (s : List (ByteArray × Int × Int × Int × Int × Int × Int)) (f : ByteArray → Int → Int → Int → Int → Int → Int → Option Bool) (K_ : Unit → Option Int) (rec : Int → Option Int) : Int → Option Int := fun t8 =>
  br (decide (t8 < (s.length : Int))) (
  chk (0 ≤ t8 ∧ t8 < (s.length : Int)) <|
  bnd (f ((s.getD t8.toNat default).1) ((s.getD t8.toNat default).2.1) ((s.getD t8.toNat default).2.2.1) ((s.getD t8.toNat default).2.2.2.1) ((s.getD t8.toNat default).2.2.2.2.1) ((s.getD t8.toNat default).2.2.2.2.2.1) ((s.getD t8.toNat default).2.2.2.2.2.2)) fun x1 =>
  br (x1) (
  some t8) (
  rec (w64 (t8 + (1 : Int))))) (
  K_ ())
def slices_IndexFunc_api_PlanCell_api_PlanCell (N : Nat) (s : List (ByteArray × Int × Int × Int × Int × Int × Int)) (f : ByteArray → Int → Int → Int → Int → Int → Int → Option Bool) : Option Int :=
  jn (τ := Unit) (fun (_ : Unit) =>
    some (-1 : Int)) fun K_ =>
  rds (slices_IndexFunc_api_PlanCell_api_PlanCell.b1 N s f K_) N (0 : Int)

def slices_ContainsFunc_api_PlanCell_api_PlanCell (N : Nat) (s : List (ByteArray × Int × Int × Int × Int × Int × Int)) (f : ByteArray → Int → Int → Int → Int → Int → Int → Option Bool) : Option Bool :=
  bnd (slices_IndexFunc_api_PlanCell_api_PlanCell N s f) fun x1 =>
  some (decide (x1 ≥ (0 : Int)))

def plan_isName.b1 (N : Nat) (s : ByteArray) (K_ : Unit → Option Bool) (rec : Int → Option Bool) : Int → Option Bool := fun t9 =>
  br (decide (t9 < ((bytesL s).length : Int))) (
  chk (0 ≤ t9 ∧ t9 < ((bytesL s).length : Int)) <|
  br (((!(((decide (((bytesL s).getD t9.toNat 0) ≥ (97 : Int))) && (decide (((bytesL s).getD t9.toNat 0) ≤ (122 : Int)))) || ((decide (((bytesL s).getD t9.toNat 0) ≥ (65 : Int))) && (decide (((bytesL s).getD t9.toNat 0) ≤ (90 : Int)))))) && ((t9 == (0 : Int)) || ((((bytesL s).getD t9.toNat 0) != (45 : Int)) && ((decide (((bytesL s).getD t9.toNat 0) < (48 : Int))) || (decide (((bytesL s).getD t9.toNat 0) > (57 : Int)))))))) (
  some false) (
  rec (w64 (t9 + (1 : Int))))) (
  K_ ())
def plan_isName (N : Nat) (s : ByteArray) : Option Bool :=
  jn (τ := Unit) (fun (_ : Unit) =>
    some ((!(s.toList == (⟨#[]⟩ : ByteArray).toList)) && (decide ((s.size : Int) ≤ (12 : Int))))) fun K_ =>
  rds (plan_isName.b1 N s K_) N (0 : Int)

def plan_isIdentity (N : Nat) (n : Int) : Option Bool :=
  bnd (plan_within N n (0 : Int) (1007 : Int)) fun x1 =>
  some x1

def plan_ownErr (N : Nat) (Zc : ByteArray) (Za : Int) (Z8 : Int) (Z9 : Int) (Zb : Int) (Zd : Int) (Ze : Int) : Option Int :=
  bnd (plan_isName N Zc) fun x1 =>
  bnd (plan_unless N x1 (4 : Int)) fun x2 =>
  bnd (plan_isIdentity N Za) fun x3 =>
  bnd (plan_unless N x3 (2 : Int)) fun x4 =>
  bnd (plan_first N ([x2, x4] : List Int)) fun x5 =>
  some x5

def plan_pointErr (N : Nat) (Z10 : List (List Int)) (at_0 : Int) (at_1 : Int) : Option Int :=
  bnd (plan_within N at_0 (0 : Int) (w64 ((Z10.length : Int) - (1 : Int)))) fun x1 =>
  chk (x1 = true → 0 ≤ (0 : Int) ∧ (0 : Int) < (Z10.length : Int)) <|
  bnd (grd x1 false (plan_within N at_1 (0 : Int) (w64 (((Z10.getD 0 default).length : Int) - (1 : Int))))) fun x2 =>
  bnd (plan_unless N (x1 && x2) (6 : Int)) fun x3 =>
  some x3

def plan_isLevel (N : Nat) (n : Int) : Option Bool :=
  bnd (plan_within N n (-2000 : Int) (1000 : Int)) fun x1 =>
  some x1

def plan_numbersErr (N : Nat) (Zc : ByteArray) (Za : Int) (Z8 : Int) (Z9 : Int) (Zb : Int) (Zd : Int) (Ze : Int) : Option Int :=
  bnd (plan_within N Zb (1 : Int) (200 : Int)) fun x1 =>
  bnd (grd x1 false (plan_isLevel N Zd)) fun x2 =>
  bnd (grd (x1 && x2) false (plan_within N Ze (0 : Int) (11 : Int))) fun x3 =>
  bnd (plan_unless N ((x1 && x2) && x3) (2 : Int)) fun x4 =>
  some x4

def plan_CheckCell (N : Nat) (Z10 : List (List Int)) (Zc : ByteArray) (Za : Int) (Z8 : Int) (Z9 : Int) (Zb : Int) (Zd : Int) (Ze : Int) : Option Int :=
  bnd (plan_rasterErr N Z10) fun x1 =>
  bnd (plan_ownErr N Zc Za Z8 Z9 Zb Zd Ze) fun x2 =>
  bnd (plan_pointErr N Z10 Z8 Z9) fun x3 =>
  bnd (plan_numbersErr N Zc Za Z8 Z9 Zb Zd Ze) fun x4 =>
  bnd (plan_first N ([x1, x2, x3, x4] : List Int)) fun x5 =>
  some x5

def plan_planErr.b1 (N : Nat) (Zy : List (List Int)) (Zu : List (ByteArray × Int × Int × Int × Int × Int × Int)) (K_ : Unit → Option Int) (rec : Int → Option Int) : Int → Option Int := fun t34 =>
  br (decide (t34 < (Zu.length : Int))) (
  chk (0 ≤ t34 ∧ t34 < (Zu.length : Int)) <|
  chk (0 ≤ (0 : Int) ∧ (0 : Int) ≤ t34 ∧ t34 ≤ (Zu.length : Int)) <|
  bnd (slices_ContainsFunc_api_PlanCell_api_PlanCell N (Zu.take t34.toNat) (fun y0 y1 y2 y3 y4 y5 y6 => plan_planErr_1 N y0 y1 y2 y3 y4 y5 y6 ((Zu.getD t34.toNat default).1) ((Zu.getD t34.toNat default).2.1) ((Zu.getD t34.toNat default).2.2.1) ((Zu.getD t34.toNat default).2.2.2.1) ((Zu.getD t34.toNat default).2.2.2.2.1) ((Zu.getD t34.toNat default).2.2.2.2.2.1) ((Zu.getD t34.toNat default).2.2.2.2.2.2))) fun x5 =>
  bnd (plan_CheckCell N Zy ((Zu.getD t34.toNat default).1) ((Zu.getD t34.toNat default).2.1) ((Zu.getD t34.toNat default).2.2.1) ((Zu.getD t34.toNat default).2.2.2.1) ((Zu.getD t34.toNat default).2.2.2.2.1) ((Zu.getD t34.toNat default).2.2.2.2.2.1) ((Zu.getD t34.toNat default).2.2.2.2.2.2)) fun x6 =>
  bnd (plan_unless N (!x5) (5 : Int)) fun x7 =>
  bnd (plan_first N ([x6, x7] : List Int)) fun x8 =>
  br ((x8 != (0 : Int))) (
  some x8) (
  rec (w64 (t34 + (1 : Int))))) (
  K_ ())
def plan_planErr.b2 (N : Nat) (Zx : List (Int × Int)) (K_1 : Unit → Option Int) (rec1 : Int × Int → Option Int) : Int × Int → Option Int := fun (last, t76) =>
  br (decide (t76 < (Zx.length : Int))) (
  chk (0 ≤ t76 ∧ t76 < (Zx.length : Int)) <|
  bnd (plan_within N ((Zx.getD t76.toNat default).1) (0 : Int) (300 : Int)) fun x12 =>
  bnd (grd x12 false (plan_within N ((Zx.getD t76.toNat default).2) (0 : Int) (3000 : Int))) fun x13 =>
  bnd (plan_unless N (x12 && x13) (2 : Int)) fun x14 =>
  bnd (plan_unless N (decide ((Zx.getD t76.toNat default).1 > last)) (9 : Int)) fun x15 =>
  bnd (plan_first N ([x14, x15] : List Int)) fun x16 =>
  br ((x16 != (0 : Int))) (
  some x16) (
  rec1 ((Zx.getD t76.toNat default).1, w64 (t76 + (1 : Int))))) (
  K_1 ())
def plan_planErr (N : Nat) (Zy : List (List Int)) (Zu : List (ByteArray × Int × Int × Int × Int × Int × Int)) (Zx : List (Int × Int)) (Zv : Int) (Zz : Int) (Zw : Int) : Option Int :=
  bnd (plan_rasterErr N Zy) fun x1 =>
  bnd (plan_unless N (decide ((Zu.length : Int) > (0 : Int))) (10 : Int)) fun x2 =>
  bnd (plan_unless N (decide ((Zu.length : Int) ≤ (6 : Int))) (8 : Int)) fun x3 =>
  bnd (plan_first N ([x1, x2, x3] : List Int)) fun x4 =>
  br ((x4 != (0 : Int))) (
  some x4) (
  jn (τ := Unit) (fun (_ : Unit) =>
    bnd (plan_unless N (decide ((Zx.length : Int) > (0 : Int))) (10 : Int)) fun x9 =>
    bnd (plan_unless N (decide ((Zx.length : Int) ≤ (12 : Int))) (8 : Int)) fun x10 =>
    bnd (plan_first N ([x9, x10] : List Int)) fun x11 =>
    br ((x11 != (0 : Int))) (
    some x11) (
    jn (τ := Unit) (fun (_ : Unit) =>
      bnd (plan_within N Zv (0 : Int) (3000 : Int)) fun x17 =>
      bnd (grd x17 false (plan_within N Zz (0 : Int) (100 : Int))) fun x18 =>
      bnd (grd (x17 && x18) false (plan_isLevel N Zw)) fun x19 =>
      bnd (plan_unless N ((x17 && x18) && x19) (2 : Int)) fun x20 =>
      some x20) fun K_1 =>
    rds (plan_planErr.b2 N Zx K_1) N ((-1 : Int), (0 : Int)))) fun K_ =>
  rds (plan_planErr.b1 N Zy Zu K_) N (0 : Int))

def plan_field_points (N : Nat) (Zj : List (List Int)) (Zf : List (ByteArray × Int × Int × Int × Int × Int × Int)) (Zi : List (Int × Int)) (Zg : Int) (Zk : Int) (Zh : Int) (f_width : Int) (f_levels : List (List (Int × Bool))) : Option Int :=
  some (w64 ((Zj.length : Int) * f_width))

def plan_field_point (N : Nat) (Zj : List (List Int)) (Zf : List (ByteArray × Int × Int × Int × Int × Int × Int)) (Zi : List (Int × Int)) (Zg : Int) (Zk : Int) (Zh : Int) (f_width : Int) (f_levels : List (List (Int × Bool))) (n : Int) : Option (Int × Int) :=
  chk (f_width ≠ 0) <|
  chk (f_width ≠ 0) <|
  some (w64 (n.tdiv f_width), n.tmod f_width)

def plan_square (N : Nat) (a_0 : Int) (a_1 : Int) (b_0 : Int) (b_1 : Int) : Option Int :=
  some (w64 ((w64 ((w64 (a_0 - b_0)) * (w64 (a_0 - b_0)))) + (w64 ((w64 (a_1 - b_1)) * (w64 (a_1 - b_1))))))

def plan_field_of_1 (N : Nat) (Zm : Int) (Zl : Int) (Z4 : ByteArray) (Z2 : Int) (Z0 : Int) (Z1 : Int) (Z3 : Int) (Z5 : Int) (Z7 : Int) (a2_0 : Int) (a2_1 : Int) : Option Bool :=
  bnd (plan_square N Z0 Z1 a2_0 a2_1) fun x1 =>
  some (decide (Zm ≥ x1))

def slices_IndexFunc_api_PlanLoss_api_PlanLoss.b1 (N : Nat) (s : List (Int × Int)) (f : Int → Int → Option Bool) (K_ : Unit → Option Int) (rec : Int → Option Int) : Int → Option Int := fun t8 =>
  br (decide (t8 < (s.length : Int))) (
  chk (0 ≤ t8 ∧ t8 < (s.length : Int)) <|
  bnd (f ((s.getD t8.toNat default).1) ((s.getD t8.toNat default).2)) fun x1 =>
  br (x1) (
  some t8) (
  rec (w64 (t8 + (1 : Int))))) (
  K_ ())
def slices_IndexFunc_api_PlanLoss_api_PlanLoss (N : Nat) (s : List (Int × Int)) (f : Int → Int → Option Bool) : Option Int :=
  jn (τ := Unit) (fun (_ : Unit) =>
    some (-1 : Int)) fun K_ =>
  rds (slices_IndexFunc_api_PlanLoss_api_PlanLoss.b1 N s f K_) N (0 : Int)

def plan_size (N : Nat) (n : Int) : Option Int :=
  some (if n < w64 (0 - n) then w64 (0 - n) else n)

def plan_steps (N : Nat) (a_0 : Int) (a_1 : Int) (b_0 : Int) (b_1 : Int) : Option Int :=
  bnd (plan_size N (w64 (a_0 - b_0))) fun x1 =>
  bnd (plan_size N (w64 (a_1 - b_1))) fun x2 =>
  some (if x1 < x2 then x2 else x1)

def plan_sees_1 (N : Nat) (p_0 : Int) (p_1 : Int) (Z6 : List (List Int)) : Option Int :=
  chk (0 ≤ p_0 ∧ p_0 < (Z6.length : Int)) <|
  chk (0 ≤ p_1 ∧ p_1 < ((Z6.getD p_0.toNat default).length : Int)) <|
  some ((Z6.getD p_0.toNat default).getD p_1.toNat 0)

def plan_nearest (N : Nat) (n : Int) (by_ : Int) : Option Int :=
  chk (w64 ((2 : Int) * by_) ≠ 0) <|
  chk (w64 ((2 : Int) * by_) ≠ 0) <|
  br (decide ((w64 ((w64 ((2 : Int) * n)) + by_)).tmod (w64 ((2 : Int) * by_)) < (0 : Int))) (
  some (w64 ((w64 ((w64 ((w64 ((2 : Int) * n)) + by_)).tdiv (w64 ((2 : Int) * by_)))) - (1 : Int)))) (
  some (w64 ((w64 ((w64 ((2 : Int) * n)) + by_)).tdiv (w64 ((2 : Int) * by_)))))

def plan_sees.b1 (N : Nat) (Z10 : List (List Int)) (Z8 : Int) (Z9 : Int) (Zb : Int) (at_0 : Int) (at_1 : Int) (x1 : Int) (x2 : Int) (x3 : Int) (K_ : Unit → Option Bool) (rec : Int → Option Bool) : Int → Option Bool := fun k =>
  br (decide (k < x1)) (
  jn (τ := Unit) (fun (_ : Unit) =>
    rec (w64 (k + (1 : Int)))) fun K_1 =>
  jn (τ := Int × Int) (fun (b3, b31) =>
    bnd (plan_sees_1 N b3 b31 Z10) fun x6 =>
    br (decide (w64 (x1 * x6) > w64 ((w64 ((w64 (x1 - k)) * (w64 (x2 + Zb)))) + (w64 (k * (w64 (x3 + (2 : Int)))))))) (
    some false) (
    K_1 ())) fun K_2 =>
  bnd (plan_nearest N (w64 (k * (w64 (at_0 - Z8)))) x1) fun x4 =>
  bnd (plan_nearest N (w64 (k * (w64 (at_1 - Z9)))) x1) fun x5 =>
  K_2 (w64 (Z8 + x4), w64 (Z9 + x5))) (
  K_ ())
def plan_sees (N : Nat) (Z10 : List (List Int)) (Zc : ByteArray) (Za : Int) (Z8 : Int) (Z9 : Int) (Zb : Int) (Zd : Int) (Ze : Int) (at_0 : Int) (at_1 : Int) : Option Bool :=
  bnd (plan_steps N Z8 Z9 at_0 at_1) fun x1 =>
  bnd (plan_sees_1 N Z8 Z9 Z10) fun x2 =>
  bnd (plan_sees_1 N at_0 at_1 Z10) fun x3 =>
  jn (τ := Unit) (fun (_ : Unit) =>
    some true) fun K_ =>
  rds (plan_sees.b1 N Z10 Z8 Z9 Zb at_0 at_1 x1 x2 x3 K_) N (1 : Int)

def plan_field_of.b1 (N : Nat) (Zj : List (List Int)) (Zf : List (ByteArray × Int × Int × Int × Int × Int × Int)) (Zi : List (Int × Int)) (Zg : Int) (Zk : Int) (Zh : Int) (f_width : Int) (f_levels : List (List (Int × Bool))) (Zc : ByteArray) (Za : Int) (Z8 : Int) (Z9 : Int) (Zb : Int) (Zd : Int) (Ze : Int) (K_ : (List (Int × Bool)) → Option (List (Int × Bool))) (x1 : Int) (rec : Int × (List (Int × Bool)) → Option (List (Int × Bool))) : Int × (List (Int × Bool)) → Option (List (Int × Bool)) := fun (t12, b11) =>
  br (decide (t12 < x1)) (
  bnd (plan_field_point N Zj Zf Zi Zg Zk Zh f_width f_levels t12) fun (x2, x21) =>
  bnd (slices_IndexFunc_api_PlanLoss_api_PlanLoss N Zi (fun y0 y1 => plan_field_of_1 N y0 y1 Zc Za Z8 Z9 Zb Zd Ze x2 x21)) fun x3 =>
  br (decide (x3 < (0 : Int))) (
  chk (b11.length + ([((0 : Int), false)] : List (Int × Bool)).length ≤ 1000000000) <|
  rec (w64 (t12 + (1 : Int)), (b11 ++ ([((0 : Int), false)] : List (Int × Bool))))) (
  chk (0 ≤ x3 ∧ x3 < (Zi.length : Int)) <|
  bnd (plan_steps N Z8 Z9 x2 x21) fun x4 =>
  bnd (plan_size N (w64 ((w64 ((12 : Int) - Ze)) - x4))) fun x5 =>
  bnd (plan_sees N Zj Zc Za Z8 Z9 Zb Zd Ze x2 x21) fun x6 =>
  br (!x6) (
  chk (b11.length + ([(w64 ((w64 ((w64 (Zd - ((Zi.getD x3.toNat default).2))) - (w64 (Zk * x5)))) - Zg), true)] : List (Int × Bool)).length ≤ 1000000000) <|
  rec (w64 (t12 + (1 : Int)), (b11 ++ ([(w64 ((w64 ((w64 (Zd - ((Zi.getD x3.toNat default).2))) - (w64 (Zk * x5)))) - Zg), true)] : List (Int × Bool))))) (
  chk (b11.length + ([(w64 ((w64 (Zd - ((Zi.getD x3.toNat default).2))) - (w64 (Zk * x5))), true)] : List (Int × Bool)).length ≤ 1000000000) <|
  rec (w64 (t12 + (1 : Int)), (b11 ++ ([(w64 ((w64 (Zd - ((Zi.getD x3.toNat default).2))) - (w64 (Zk * x5))), true)] : List (Int × Bool))))))) (
  K_ b11)
def plan_field_of (N : Nat) (Zj : List (List Int)) (Zf : List (ByteArray × Int × Int × Int × Int × Int × Int)) (Zi : List (Int × Int)) (Zg : Int) (Zk : Int) (Zh : Int) (f_width : Int) (f_levels : List (List (Int × Bool))) (Zc : ByteArray) (Za : Int) (Z8 : Int) (Z9 : Int) (Zb : Int) (Zd : Int) (Ze : Int) : Option (List (Int × Bool)) :=
  jn (τ := (List (Int × Bool))) (fun (b1 : (List (Int × Bool))) =>
    some b1) fun K_ =>
  bnd (plan_field_points N Zj Zf Zi Zg Zk Zh f_width f_levels) fun x1 =>
  rds (plan_field_of.b1 N Zj Zf Zi Zg Zk Zh f_width f_levels Zc Za Z8 Z9 Zb Zd Ze K_ x1) N ((0 : Int), ([] : List (Int × Bool)))

def plan_field_server.b1 (N : Nat) (f_levels : List (List (Int × Bool))) (n : Int) (K_ : Int × Int × Bool → Option (Int × Int × Bool)) (rec : Int × Int × Int × Bool → Option (Int × Int × Bool)) : Int × Int × Int × Bool → Option (Int × Int × Bool) := fun (cell1, t15, b12, b13) =>
  br (decide (t15 < (f_levels.length : Int))) (
  chk (0 ≤ t15 ∧ t15 < (f_levels.length : Int)) <|
  chk (0 ≤ n ∧ n < ((f_levels.getD t15.toNat default).length : Int)) <|
  chk (((((f_levels.getD t15.toNat default).getD n.toNat default).2) && b13) = true → 0 ≤ n ∧ n < ((f_levels.getD t15.toNat default).length : Int)) <|
  br (((((f_levels.getD t15.toNat default).getD n.toNat default).2) && ((!b13) || (decide (((f_levels.getD t15.toNat default).getD n.toNat default).1 > b12))))) (
  chk (0 ≤ n ∧ n < ((f_levels.getD t15.toNat default).length : Int)) <|
  rec (t15, w64 (t15 + (1 : Int)), ((f_levels.getD t15.toNat default).getD n.toNat default).1, ((f_levels.getD t15.toNat default).getD n.toNat default).2)) (
  rec (cell1, w64 (t15 + (1 : Int)), b12, b13))) (
  K_ (cell1, b12, b13))
def plan_field_server (N : Nat) (Zj : List (List Int)) (Zf : List (ByteArray × Int × Int × Int × Int × Int × Int)) (Zi : List (Int × Int)) (Zg : Int) (Zk : Int) (Zh : Int) (f_width : Int) (f_levels : List (List (Int × Bool))) (n : Int) : Option (Int × Int × Bool) :=
  jn (τ := Int × Int × Bool) (fun (cell, b1, b11) =>
    some (cell, b1, b11)) fun K_ =>
  rds (plan_field_server.b1 N f_levels n K_) N ((-1 : Int), (0 : Int), (0 : Int), false)

def base_Within (N : Nat) (n : Int) (lo : Int) (hi : Int) : Option Bool :=
  some ((decide (lo ≤ n)) && (decide (n ≤ hi)))

def ref09_CheckRaster.b2 (N : Nat) (Z10 : List (List Int)) (i : Int) (K_1 : Unit → Option (Int × Int × Int)) (rec1 : Int → Option (Int × Int × Int)) : Int → Option (Int × Int × Int) := fun k =>
  chk (0 ≤ i ∧ i < (Z10.length : Int)) <|
  br (decide (k < ((Z10.getD i.toNat default).length : Int))) (
  chk (0 ≤ i ∧ i < (Z10.length : Int)) <|
  chk (0 ≤ k ∧ k < ((Z10.getD i.toNat default).length : Int)) <|
  bnd (base_Within N ((Z10.getD i.toNat default).getD k.toNat 0) (0 : Int) (5000 : Int)) fun x1 =>
  br (!x1) (
  some (i, k, (2 : Int))) (
  rec1 (w64 (k + (1 : Int))))) (
  K_1 ())
def ref09_CheckRaster.b1 (N : Nat) (Z10 : List (List Int)) (K_ : Unit → Option (Int × Int × Int)) (rec : Int → Option (Int × Int × Int)) : Int → Option (Int × Int × Int) := fun i =>
  br (decide (i < (Z10.length : Int))) (
  jn (τ := Unit) (fun (_ : Unit) =>
    rec (w64 (i + (1 : Int)))) fun K_1 =>
  chk (0 ≤ i ∧ i < (Z10.length : Int)) <|
  chk ((!(((Z10.getD i.toNat default).length : Int) == (0 : Int))) = true → 0 ≤ i ∧ i < (Z10.length : Int)) <|
  chk ((!(((Z10.getD i.toNat default).length : Int) == (0 : Int))) = true → 0 ≤ (0 : Int) ∧ (0 : Int) < (Z10.length : Int)) <|
  br (((((Z10.getD i.toNat default).length : Int) == (0 : Int)) || (((Z10.getD i.toNat default).length : Int) != ((Z10.getD 0 default).length : Int)))) (
  some (i, (0 : Int), (10 : Int))) (
  chk (0 ≤ i ∧ i < (Z10.length : Int)) <|
  br (decide (((Z10.getD i.toNat default).length : Int) > (12 : Int))) (
  some (i, (0 : Int), (8 : Int))) (
  rds (ref09_CheckRaster.b2 N Z10 i K_1) N (0 : Int)))) (
  K_ ())
def ref09_CheckRaster (N : Nat) (Z10 : List (List Int)) : Option (Int × Int × Int) :=
  br (((Z10.length : Int) == (0 : Int))) (
  some ((0 : Int), (0 : Int), (10 : Int))) (
  br (decide ((Z10.length : Int) > (12 : Int))) (
  some ((0 : Int), (0 : Int), (8 : Int))) (
  jn (τ := Unit) (fun (_ : Unit) =>
    some ((0 : Int), (0 : Int), (0 : Int))) fun K_ =>
  rds (ref09_CheckRaster.b1 N Z10 K_) N (0 : Int)))

def ref09_RasterErr (N : Nat) (Z10 : List (List Int)) : Option Int :=
  bnd (ref09_CheckRaster N Z10) fun (x1, x11, x12) =>
  some x12

def base_IsName.b1 (N : Nat) (s : ByteArray) (K_ : Unit → Option Bool) (rec : Int → Option Bool) : Int → Option Bool := fun i =>
  br (decide (i < (s.size : Int))) (
  chk (0 ≤ i ∧ i < (s.size : Int)) <|
  br (((!(((decide ((s.data.getD i.toNat 0).toNat ≥ (97 : Int))) && (decide ((s.data.getD i.toNat 0).toNat ≤ (122 : Int)))) || ((decide ((s.data.getD i.toNat 0).toNat ≥ (65 : Int))) && (decide ((s.data.getD i.toNat 0).toNat ≤ (90 : Int)))))) && ((i == (0 : Int)) || (((s.data.getD i.toNat 0).toNat != (45 : Int)) && ((decide ((s.data.getD i.toNat 0).toNat < (48 : Int))) || (decide ((s.data.getD i.toNat 0).toNat > (57 : Int)))))))) (
  some false) (
  rec (w64 (i + (1 : Int))))) (
  K_ ())
def base_IsName (N : Nat) (s : ByteArray) : Option Bool :=
  br (((decide ((s.size : Int) < (1 : Int))) || (decide ((s.size : Int) > (12 : Int))))) (
  some false) (
  jn (τ := Unit) (fun (_ : Unit) =>
    some true) fun K_ =>
  rds (base_IsName.b1 N s K_) N (0 : Int))

def ref09_IdentityErr (N : Nat) (n : Int) : Option Int :=
  bnd (base_Within N n (0 : Int) (1007 : Int)) fun x1 =>
  br (!x1) (
  some (2 : Int)) (
  some (0 : Int))

def ref09_ItselfErr (N : Nat) (Zc : ByteArray) (Za : Int) (Z8 : Int) (Z9 : Int) (Zb : Int) (Zd : Int) (Ze : Int) : Option Int :=
  bnd (base_IsName N Zc) fun x1 =>
  br (!x1) (
  some (4 : Int)) (
  bnd (ref09_IdentityErr N Za) fun x2 =>
  some x2)

def ref09_PointErr (N : Nat) (Z10 : List (List Int)) (at_0 : Int) (at_1 : Int) : Option Int :=
  bnd (base_Within N at_0 (0 : Int) (w64 ((Z10.length : Int) - (1 : Int)))) fun x1 =>
  chk (x1 = true → 0 ≤ (0 : Int) ∧ (0 : Int) < (Z10.length : Int)) <|
  bnd (grd x1 false (base_Within N at_1 (0 : Int) (w64 (((Z10.getD 0 default).length : Int) - (1 : Int))))) fun x2 =>
  br (((!x1) || (!x2))) (
  some (6 : Int)) (
  some (0 : Int))

def ref09_isTilt (N : Nat) (n : Int) : Option Bool :=
  bnd (base_Within N n (0 : Int) (11 : Int)) fun x1 =>
  some x1

def ref09_NumbersErr (N : Nat) (Zc : ByteArray) (Za : Int) (Z8 : Int) (Z9 : Int) (Zb : Int) (Zd : Int) (Ze : Int) : Option Int :=
  bnd (base_Within N Zb (1 : Int) (200 : Int)) fun x1 =>
  bnd (grd x1 false (base_Within N Zd (-2000 : Int) (1000 : Int))) fun x2 =>
  bnd (grd (!((!x1) || (!x2))) false (ref09_isTilt N Ze)) fun x3 =>
  br ((((!x1) || (!x2)) || (!x3))) (
  some (2 : Int)) (
  some (0 : Int))

def ref09_CellErr (N : Nat) (Z10 : List (List Int)) (Zc : ByteArray) (Za : Int) (Z8 : Int) (Z9 : Int) (Zb : Int) (Zd : Int) (Ze : Int) : Option Int :=
  bnd (ref09_RasterErr N Z10) fun x1 =>
  br ((x1 != (0 : Int))) (
  some x1) (
  bnd (ref09_ItselfErr N Zc Za Z8 Z9 Zb Zd Ze) fun x2 =>
  br ((x2 != (0 : Int))) (
  some x2) (
  bnd (ref09_PointErr N Z10 Z8 Z9) fun x3 =>
  br ((x3 != (0 : Int))) (
  some x3) (
  bnd (ref09_NumbersErr N Zc Za Z8 Z9 Zb Zd Ze) fun x4 =>
  some x4)))

def base_HasText.b1 (N : Nat) (l : List ByteArray) (s : ByteArray) (K_ : Unit → Option Bool) (rec : Int → Option Bool) : Int → Option Bool := fun i =>
  br (decide (i < (l.length : Int))) (
  chk (0 ≤ i ∧ i < (l.length : Int)) <|
  br (((l.getD i.toNat default).toList == s.toList)) (
  some true) (
  rec (w64 (i + (1 : Int))))) (
  K_ ())
def base_HasText (N : Nat) (l : List ByteArray) (s : ByteArray) : Option Bool :=
  jn (τ := Unit) (fun (_ : Unit) =>
    some false) fun K_ =>
  rds (base_HasText.b1 N l s K_) N (0 : Int)

def ref09_PlanErr.b1 (N : Nat) (Zy : List (List Int)) (Zu : List (ByteArray × Int × Int × Int × Int × Int × Int)) (K_ : Unit → Option Int) (rec : Int × List ByteArray → Option Int) : Int × List ByteArray → Option Int := fun (i, b1) =>
  br (decide (i < (Zu.length : Int))) (
  chk (0 ≤ i ∧ i < (Zu.length : Int)) <|
  bnd (ref09_CellErr N Zy ((Zu.getD i.toNat default).1) ((Zu.getD i.toNat default).2.1) ((Zu.getD i.toNat default).2.2.1) ((Zu.getD i.toNat default).2.2.2.1) ((Zu.getD i.toNat default).2.2.2.2.1) ((Zu.getD i.toNat default).2.2.2.2.2.1) ((Zu.getD i.toNat default).2.2.2.2.2.2)) fun x2 =>
  br ((x2 != (0 : Int))) (
  some x2) (
  chk (0 ≤ i ∧ i < (Zu.length : Int)) <|
  bnd (base_HasText N b1 ((Zu.getD i.toNat default).1)) fun x3 =>
  br (x3) (
  some (5 : Int)) (
  chk (0 ≤ i ∧ i < (Zu.length : Int)) <|
  chk (b1.length + ([(Zu.getD i.toNat default).1] : List ByteArray).length ≤ 1000000000) <|
  rec (w64 (i + (1 : Int)), (b1 ++ ([(Zu.getD i.toNat default).1] : List ByteArray)))))) (
  K_ ())
def ref09_PlanErr.b2 (N : Nat) (Zx : List (Int × Int)) (K_1 : Unit → Option Int) (rec1 : Int → Option Int) : Int → Option Int := fun i1 =>
  br (decide (i1 < (Zx.length : Int))) (
  chk (0 ≤ i1 ∧ i1 < (Zx.length : Int)) <|
  bnd (base_Within N ((Zx.getD i1.toNat default).1) (0 : Int) (300 : Int)) fun x4 =>
  chk (x4 = true → 0 ≤ i1 ∧ i1 < (Zx.length : Int)) <|
  bnd (grd x4 false (base_Within N ((Zx.getD i1.toNat default).2) (0 : Int) (3000 : Int))) fun x5 =>
  br (((!x4) || (!x5))) (
  some (2 : Int)) (
  chk ((decide (i1 > (0 : Int))) = true → 0 ≤ i1 ∧ i1 < (Zx.length : Int)) <|
  chk ((decide (i1 > (0 : Int))) = true → 0 ≤ w64 (i1 - (1 : Int)) ∧ w64 (i1 - (1 : Int)) < (Zx.length : Int)) <|
  br (((decide (i1 > (0 : Int))) && (decide ((Zx.getD i1.toNat default).1 ≤ (Zx.getD ((w64 (i1 - (1 : Int))).toNat) default).1)))) (
  some (9 : Int)) (
  rec1 (w64 (i1 + (1 : Int)))))) (
  K_1 ())
def ref09_PlanErr (N : Nat) (Zy : List (List Int)) (Zu : List (ByteArray × Int × Int × Int × Int × Int × Int)) (Zx : List (Int × Int)) (Zv : Int) (Zz : Int) (Zw : Int) : Option Int :=
  bnd (ref09_RasterErr N Zy) fun x1 =>
  br ((x1 != (0 : Int))) (
  some x1) (
  br (((Zu.length : Int) == (0 : Int))) (
  some (10 : Int)) (
  br (decide ((Zu.length : Int) > (6 : Int))) (
  some (8 : Int)) (
  jn (τ := Unit) (fun (_ : Unit) =>
    br (((Zx.length : Int) == (0 : Int))) (
    some (10 : Int)) (
    br (decide ((Zx.length : Int) > (12 : Int))) (
    some (8 : Int)) (
    jn (τ := Unit) (fun (_ : Unit) =>
      bnd (base_Within N Zv (0 : Int) (3000 : Int)) fun x6 =>
      bnd (grd x6 false (base_Within N Zz (0 : Int) (100 : Int))) fun x7 =>
      bnd (grd (!((!x6) || (!x7))) false (base_Within N Zw (-2000 : Int) (1000 : Int))) fun x8 =>
      br ((((!x6) || (!x7)) || (!x8))) (
      some (2 : Int)) (
      some (0 : Int))) fun K_1 =>
    rds (ref09_PlanErr.b2 N Zx K_1) N (0 : Int)))) fun K_ =>
  rds (ref09_PlanErr.b1 N Zy Zu K_) N ((0 : Int), ([] : List ByteArray)))))

def base_Has.b1 (N : Nat) (l : List Int) (n : Int) (K_ : Unit → Option Bool) (rec : Int → Option Bool) : Int → Option Bool := fun i =>
  br (decide (i < (l.length : Int))) (
  chk (0 ≤ i ∧ i < (l.length : Int)) <|
  br (((l.getD i.toNat 0) == n)) (
  some true) (
  rec (w64 (i + (1 : Int))))) (
  K_ ())
def base_Has (N : Nat) (l : List Int) (n : Int) : Option Bool :=
  jn (τ := Unit) (fun (_ : Unit) =>
    some false) fun K_ =>
  rds (base_Has.b1 N l n K_) N (0 : Int)

def ref09_Without.b1 (N : Nat) (Zu : List (ByteArray × Int × Int × Int × Int × Int × Int)) (set : List Int) (K_ : List Bool → Option (List Bool)) (rec : Int × List Bool → Option (List Bool)) : Int × List Bool → Option (List Bool) := fun (i, b11) =>
  br (decide (i < (Zu.length : Int))) (
  bnd (base_Has N set i) fun x1 =>
  chk (b11.length + ([!x1] : List Bool).length ≤ 1000000000) <|
  rec (w64 (i + (1 : Int)), (b11 ++ ([!x1] : List Bool)))) (
  K_ b11)
def ref09_Without (N : Nat) (Zy : List (List Int)) (Zu : List (ByteArray × Int × Int × Int × Int × Int × Int)) (Zx : List (Int × Int)) (Zv : Int) (Zz : Int) (Zw : Int) (set : List Int) : Option (List Bool) :=
  jn (τ := List Bool) (fun (b1 : List Bool) =>
    some b1) fun K_ =>
  rds (ref09_Without.b1 N Zu set K_) N ((0 : Int), ([] : List Bool))

def base_Size (N : Nat) (n : Int) : Option Int :=
  some (if n < w64 (0 - n) then w64 (0 - n) else n)

def ref09_Steps (N : Nat) (a_0 : Int) (a_1 : Int) (b_0 : Int) (b_1 : Int) : Option Int :=
  bnd (base_Size N (w64 (a_0 - b_0))) fun x1 =>
  bnd (base_Size N (w64 (a_1 - b_1))) fun x2 =>
  some (if x1 < x2 then x2 else x1)

def base_Floor (N : Nat) (n : Int) (by_ : Int) : Option Int :=
  chk (by_ ≠ 0) <|
  chk (by_ ≠ 0) <|
  br (decide (n.tmod by_ < (0 : Int))) (
  some (w64 ((w64 (n.tdiv by_)) - (1 : Int)))) (
  some (w64 (n.tdiv by_)))

def ref09_Sees.b1 (N : Nat) (Z10 : List (List Int)) (Z8 : Int) (Z9 : Int) (Zb : Int) (at_0 : Int) (at_1 : Int) (x1 : Int) (K_ : Unit → Option Bool) (rec : Int → Option Bool) : Int → Option Bool := fun k =>
  br (decide (k < x1)) (
  bnd (base_Floor N (w64 ((w64 ((w64 ((2 : Int) * (w64 (at_0 - Z8)))) * k)) + x1)) (w64 ((2 : Int) * x1))) fun x2 =>
  bnd (base_Floor N (w64 ((w64 ((w64 ((2 : Int) * (w64 (at_1 - Z9)))) * k)) + x1)) (w64 ((2 : Int) * x1))) fun x3 =>
  chk (0 ≤ w64 (Z8 + x2) ∧ w64 (Z8 + x2) < (Z10.length : Int)) <|
  chk (0 ≤ w64 (Z9 + x3) ∧ w64 (Z9 + x3) < ((Z10.getD ((w64 (Z8 + x2)).toNat) default).length : Int)) <|
  br (decide (w64 (x1 * ((Z10.getD ((w64 (Z8 + x2)).toNat) default).getD ((w64 (Z9 + x3)).toNat) 0)) > w64 ((w64 ((w64 (x1 - k)) * (w64 (((Z10.getD Z8.toNat default).getD Z9.toNat 0) + Zb)))) + (w64 (k * (w64 (((Z10.getD at_0.toNat default).getD at_1.toNat 0) + (2 : Int)))))))) (
  some false) (
  rec (w64 (k + (1 : Int))))) (
  K_ ())
def ref09_Sees (N : Nat) (Z10 : List (List Int)) (Zc : ByteArray) (Za : Int) (Z8 : Int) (Z9 : Int) (Zb : Int) (Zd : Int) (Ze : Int) (at_0 : Int) (at_1 : Int) : Option Bool :=
  bnd (ref09_Steps N Z8 Z9 at_0 at_1) fun x1 =>
  chk (0 ≤ Z8 ∧ Z8 < (Z10.length : Int)) <|
  chk (0 ≤ Z9 ∧ Z9 < ((Z10.getD Z8.toNat default).length : Int)) <|
  chk (0 ≤ at_0 ∧ at_0 < (Z10.length : Int)) <|
  chk (0 ≤ at_1 ∧ at_1 < ((Z10.getD at_0.toNat default).length : Int)) <|
  jn (τ := Unit) (fun (_ : Unit) =>
    some true) fun K_ =>
  rds (ref09_Sees.b1 N Z10 Z8 Z9 Zb at_0 at_1 x1 K_) N (1 : Int)

def ref09_LevelAt.b1 (N : Nat) (Zy : List (List Int)) (Zu : List (ByteArray × Int × Int × Int × Int × Int × Int)) (Zx : List (Int × Int)) (Zv : Int) (Zz : Int) (cell : Int) (at_0 : Int) (at_1 : Int) (K_ : Unit → Option (Int × Bool)) (rec : Int → Option (Int × Bool)) : Int → Option (Int × Bool) := fun i =>
  br (decide (i < (Zx.length : Int))) (
  chk (0 ≤ i ∧ i < (Zx.length : Int)) <|
  br (decide ((Zx.getD i.toNat default).1 < w64 ((w64 ((w64 (at_0 - ((Zu.getD cell.toNat default).2.2.1))) * (w64 (at_0 - ((Zu.getD cell.toNat default).2.2.1))))) + (w64 ((w64 (at_1 - ((Zu.getD cell.toNat default).2.2.2.1))) * (w64 (at_1 - ((Zu.getD cell.toNat default).2.2.2.1)))))))) (
  rec (w64 (i + (1 : Int)))) (
  chk (0 ≤ i ∧ i < (Zx.length : Int)) <|
  bnd (ref09_Steps N ((Zu.getD cell.toNat default).2.2.1) ((Zu.getD cell.toNat default).2.2.2.1) at_0 at_1) fun x1 =>
  bnd (base_Size N (w64 ((w64 ((12 : Int) - ((Zu.getD cell.toNat default).2.2.2.2.2.2))) - x1))) fun x2 =>
  bnd (ref09_Sees N Zy ((Zu.getD cell.toNat default).1) ((Zu.getD cell.toNat default).2.1) ((Zu.getD cell.toNat default).2.2.1) ((Zu.getD cell.toNat default).2.2.2.1) ((Zu.getD cell.toNat default).2.2.2.2.1) ((Zu.getD cell.toNat default).2.2.2.2.2.1) ((Zu.getD cell.toNat default).2.2.2.2.2.2) at_0 at_1) fun x3 =>
  br (!x3) (
  some (w64 ((w64 ((w64 (((Zu.getD cell.toNat default).2.2.2.2.2.1) - ((Zx.getD i.toNat default).2))) - (w64 (Zz * x2)))) - Zv), true)) (
  some (w64 ((w64 (((Zu.getD cell.toNat default).2.2.2.2.2.1) - ((Zx.getD i.toNat default).2))) - (w64 (Zz * x2))), true)))) (
  K_ ())
def ref09_LevelAt (N : Nat) (Zy : List (List Int)) (Zu : List (ByteArray × Int × Int × Int × Int × Int × Int)) (Zx : List (Int × Int)) (Zv : Int) (Zz : Int) (Zw : Int) (cell : Int) (at_0 : Int) (at_1 : Int) : Option (Int × Bool) :=
  chk (0 ≤ cell ∧ cell < (Zu.length : Int)) <|
  jn (τ := Unit) (fun (_ : Unit) =>
    some ((0 : Int), false)) fun K_ =>
  rds (ref09_LevelAt.b1 N Zy Zu Zx Zv Zz cell at_0 at_1 K_) N (0 : Int)

def ref09_ServerAt.b1 (N : Nat) (Zy : List (List Int)) (Zu : List (ByteArray × Int × Int × Int × Int × Int × Int)) (Zx : List (Int × Int)) (Zv : Int) (Zz : Int) (Zw : Int) (on : List Bool) (at_0 : Int) (at_1 : Int) (K_ : Int × Int × Bool → Option (Int × Int × Bool)) (rec : Int × Int × Bool × Int → Option (Int × Int × Bool)) : Int × Int × Bool × Int → Option (Int × Int × Bool) := fun (cell1, most1, some_1, i) =>
  br (decide (i < (Zu.length : Int))) (
  bnd (ref09_LevelAt N Zy Zu Zx Zv Zz Zw i at_0 at_1) fun (x1, x11) =>
  chk (0 ≤ i ∧ i < (on.length : Int)) <|
  br ((((on.getD i.toNat default) && x11) && ((!some_1) || (decide (x1 > most1))))) (
  rec (i, x1, true, w64 (i + (1 : Int)))) (
  rec (cell1, most1, some_1, w64 (i + (1 : Int))))) (
  K_ (cell1, most1, some_1))
def ref09_ServerAt (N : Nat) (Zy : List (List Int)) (Zu : List (ByteArray × Int × Int × Int × Int × Int × Int)) (Zx : List (Int × Int)) (Zv : Int) (Zz : Int) (Zw : Int) (on : List Bool) (at_0 : Int) (at_1 : Int) : Option (Int × Int × Bool) :=
  jn (τ := Int × Int × Bool) (fun (cell, most, some_) =>
    some (cell, most, some_)) fun K_ =>
  rds (ref09_ServerAt.b1 N Zy Zu Zx Zv Zz Zw on at_0 at_1 K_) N ((0 : Int), (0 : Int), false, (0 : Int))

def plan_field_covers (N : Nat) (Zj : List (List Int)) (Zf : List (ByteArray × Int × Int × Int × Int × Int × Int)) (Zi : List (Int × Int)) (Zg : Int) (Zk : Int) (Zh : Int) (f_width : Int) (f_levels : List (List (Int × Bool))) (l_n : Int) (l_is : Bool) : Option Bool :=
  some (l_is && (decide (l_n ≥ Zh)))

def plan_Holes.b1 (N : Nat) (Zy : List (List Int)) (Zu : List (ByteArray × Int × Int × Int × Int × Int × Int)) (Zx : List (Int × Int)) (Zv : Int) (Zz : Int) (Zw : Int) (K_ : (List (List (Int × Bool))) → Option ((List (Int × Int)) × Int)) (rec : Int × (List (List (Int × Bool))) → Option ((List (Int × Int)) × Int)) : Int × (List (List (Int × Bool))) → Option ((List (Int × Int)) × Int) := fun (t25, b31) =>
  br (decide (t25 < (Zu.length : Int))) (
  chk (0 ≤ t25 ∧ t25 < (Zu.length : Int)) <|
  bnd (plan_field_of N Zy Zu Zx Zv Zz Zw ((Zy.getD 0 default).length : Int) b31 ((Zu.getD t25.toNat default).1) ((Zu.getD t25.toNat default).2.1) ((Zu.getD t25.toNat default).2.2.1) ((Zu.getD t25.toNat default).2.2.2.1) ((Zu.getD t25.toNat default).2.2.2.2.1) ((Zu.getD t25.toNat default).2.2.2.2.2.1) ((Zu.getD t25.toNat default).2.2.2.2.2.2)) fun x2 =>
  chk (b31.length + ([x2] : List (List (Int × Bool))).length ≤ 1000000000) <|
  rec (w64 (t25 + (1 : Int)), (b31 ++ ([x2] : List (List (Int × Bool)))))) (
  K_ b31)
def plan_Holes.b2 (N : Nat) (Zy : List (List Int)) (Zu : List (ByteArray × Int × Int × Int × Int × Int × Int)) (Zx : List (Int × Int)) (Zv : Int) (Zz : Int) (Zw : Int) (b3 : List (List (Int × Bool))) (K_1 : (List (Int × Int)) → Option ((List (Int × Int)) × Int)) (x3 : Int) (rec1 : Int × (List (Int × Int)) → Option ((List (Int × Int)) × Int)) : Int × (List (Int × Int)) → Option ((List (Int × Int)) × Int) := fun (t20, b41) =>
  br (decide (t20 < x3)) (
  bnd (plan_field_server N Zy Zu Zx Zv Zz Zw ((Zy.getD 0 default).length : Int) b3 t20) fun (x4, x41, x42) =>
  bnd (plan_field_covers N Zy Zu Zx Zv Zz Zw ((Zy.getD 0 default).length : Int) b3 x41 x42) fun x5 =>
  br (!x5) (
  bnd (plan_field_point N Zy Zu Zx Zv Zz Zw ((Zy.getD 0 default).length : Int) b3 t20) fun (x6, x61) =>
  chk (b41.length + ([(x6, x61)] : List (Int × Int)).length ≤ 1000000000) <|
  rec1 (w64 (t20 + (1 : Int)), (b41 ++ ([(x6, x61)] : List (Int × Int))))) (
  rec1 (w64 (t20 + (1 : Int)), b41))) (
  K_1 b41)
def plan_Holes (N : Nat) (Zy : List (List Int)) (Zu : List (ByteArray × Int × Int × Int × Int × Int × Int)) (Zx : List (Int × Int)) (Zv : Int) (Zz : Int) (Zw : Int) : Option ((List (Int × Int)) × Int) :=
  bnd (plan_planErr N Zy Zu Zx Zv Zz Zw) fun x1 =>
  br ((x1 != (0 : Int))) (
  some (([] : List (Int × Int)), x1)) (
  chk (0 ≤ (0 : Int) ∧ (0 : Int) < (Zy.length : Int)) <|
  jn (τ := (List (List (Int × Bool)))) (fun (b3 : (List (List (Int × Bool)))) =>
    jn (τ := (List (Int × Int))) (fun (b4 : (List (Int × Int))) =>
      some (b4, (0 : Int))) fun K_1 =>
    bnd (plan_field_points N Zy Zu Zx Zv Zz Zw ((Zy.getD 0 default).length : Int) b3) fun x3 =>
    rds (plan_Holes.b2 N Zy Zu Zx Zv Zz Zw b3 K_1 x3) N ((0 : Int), ([] : List (Int × Int)))) fun K_ =>
  rds (plan_Holes.b1 N Zy Zu Zx Zv Zz Zw K_) N ((0 : Int), ([] : List (List (Int × Bool)))))

def plan_CoveredBy.b1 (N : Nat) (Zy : List (List Int)) (Zu : List (ByteArray × Int × Int × Int × Int × Int × Int)) (Zx : List (Int × Int)) (Zv : Int) (Zz : Int) (Zw : Int) (K_ : (List (List (Int × Bool))) → Option (List Int × Int)) (rec : Int × (List (List (Int × Bool))) → Option (List Int × Int)) : Int × (List (List (Int × Bool))) → Option (List Int × Int) := fun (t25, b31) =>
  br (decide (t25 < (Zu.length : Int))) (
  chk (0 ≤ t25 ∧ t25 < (Zu.length : Int)) <|
  bnd (plan_field_of N Zy Zu Zx Zv Zz Zw ((Zy.getD 0 default).length : Int) b31 ((Zu.getD t25.toNat default).1) ((Zu.getD t25.toNat default).2.1) ((Zu.getD t25.toNat default).2.2.1) ((Zu.getD t25.toNat default).2.2.2.1) ((Zu.getD t25.toNat default).2.2.2.2.1) ((Zu.getD t25.toNat default).2.2.2.2.2.1) ((Zu.getD t25.toNat default).2.2.2.2.2.2)) fun x2 =>
  chk (b31.length + ([x2] : List (List (Int × Bool))).length ≤ 1000000000) <|
  rec (w64 (t25 + (1 : Int)), (b31 ++ ([x2] : List (List (Int × Bool)))))) (
  K_ b31)
def plan_CoveredBy.b2 (N : Nat) (Zy : List (List Int)) (Zu : List (ByteArray × Int × Int × Int × Int × Int × Int)) (Zx : List (Int × Int)) (Zv : Int) (Zz : Int) (Zw : Int) (b3 : List (List (Int × Bool))) (K_1 : List Int → Option (List Int × Int)) (x3 : Int) (rec1 : Int × List Int → Option (List Int × Int)) : Int × List Int → Option (List Int × Int) := fun (t24, b41) =>
  br (decide (t24 < x3)) (
  bnd (plan_field_server N Zy Zu Zx Zv Zz Zw ((Zy.getD 0 default).length : Int) b3 t24) fun (x4, x41, x42) =>
  bnd (plan_field_covers N Zy Zu Zx Zv Zz Zw ((Zy.getD 0 default).length : Int) b3 x41 x42) fun x5 =>
  br (x5) (
  chk (0 ≤ x4 ∧ x4 < (b41.length : Int)) <|
  chk (0 ≤ x4 ∧ x4 < (b41.length : Int)) <|
  rec1 (w64 (t24 + (1 : Int)), (b41.set x4.toNat (w64 ((b41.getD x4.toNat 0) + (1 : Int)))))) (
  rec1 (w64 (t24 + (1 : Int)), b41))) (
  K_1 b41)
def plan_CoveredBy (N : Nat) (Zy : List (List Int)) (Zu : List (ByteArray × Int × Int × Int × Int × Int × Int)) (Zx : List (Int × Int)) (Zv : Int) (Zz : Int) (Zw : Int) : Option (List Int × Int) :=
  bnd (plan_planErr N Zy Zu Zx Zv Zz Zw) fun x1 =>
  br ((x1 != (0 : Int))) (
  some (([] : List Int), x1)) (
  chk (0 ≤ (0 : Int) ∧ (0 : Int) < (Zy.length : Int)) <|
  jn (τ := (List (List (Int × Bool)))) (fun (b3 : (List (List (Int × Bool)))) =>
    chk (0 ≤ (Zu.length : Int) ∧ (Zu.length : Int) ≤ 1000000000) <|
    jn (τ := List Int) (fun (b4 : List Int) =>
      some (b4, (0 : Int))) fun K_1 =>
    bnd (plan_field_points N Zy Zu Zx Zv Zz Zw ((Zy.getD 0 default).length : Int) b3) fun x3 =>
    rds (plan_CoveredBy.b2 N Zy Zu Zx Zv Zz Zw b3 K_1 x3) N ((0 : Int), (List.replicate (Zu.length : Int).toNat (0 : Int)))) fun K_ =>
  rds (plan_CoveredBy.b1 N Zy Zu Zx Zv Zz Zw K_) N ((0 : Int), ([] : List (List (Int × Bool)))))

def ref09_Points.b2 (N : Nat) (Z10 : List (List Int)) (i : Int) (K_1 : (List (Int × Int)) → Option (List (Int × Int))) (rec1 : Int × (List (Int × Int)) → Option (List (Int × Int))) : Int × (List (Int × Int)) → Option (List (Int × Int)) := fun (k, b13) =>
  chk (0 ≤ (0 : Int) ∧ (0 : Int) < (Z10.length : Int)) <|
  br (decide (k < ((Z10.getD 0 default).length : Int))) (
  chk (b13.length + ([(i, k)] : List (Int × Int)).length ≤ 1000000000) <|
  rec1 (w64 (k + (1 : Int)), (b13 ++ ([(i, k)] : List (Int × Int))))) (
  K_1 b13)
def ref09_Points.b1 (N : Nat) (Z10 : List (List Int)) (K_ : (List (Int × Int)) → Option (List (Int × Int))) (rec : Int × (List (Int × Int)) → Option (List (Int × Int))) : Int × (List (Int × Int)) → Option (List (Int × Int)) := fun (i, b11) =>
  br (decide (i < (Z10.length : Int))) (
  jn (τ := (List (Int × Int))) (fun (b12 : (List (Int × Int))) =>
    rec (w64 (i + (1 : Int)), b12)) fun K_1 =>
  rds (ref09_Points.b2 N Z10 i K_1) N ((0 : Int), b11)) (
  K_ b11)
def ref09_Points (N : Nat) (Z10 : List (List Int)) : Option (List (Int × Int)) :=
  jn (τ := (List (Int × Int))) (fun (b1 : (List (Int × Int))) =>
    some b1) fun K_ =>
  rds (ref09_Points.b1 N Z10 K_) N ((0 : Int), ([] : List (Int × Int)))

def ref09_covered (N : Nat) (Zy : List (List Int)) (Zu : List (ByteArray × Int × Int × Int × Int × Int × Int)) (Zx : List (Int × Int)) (Zv : Int) (Zz : Int) (Zw : Int) (on : List Bool) (at_0 : Int) (at_1 : Int) : Option Bool :=
  bnd (ref09_ServerAt N Zy Zu Zx Zv Zz Zw on at_0 at_1) fun (x1, x11, x12) =>
  some (x12 && (decide (x11 ≥ Zw)))

def ref09_Holes.b1 (N : Nat) (Zy : List (List Int)) (Zu : List (ByteArray × Int × Int × Int × Int × Int × Int)) (Zx : List (Int × Int)) (Zv : Int) (Zz : Int) (Zw : Int) (x1 : List (Int × Int)) (K_ : (List (Int × Int)) → Option (List (Int × Int))) (rec : Int × (List (Int × Int)) → Option (List (Int × Int))) : Int × (List (Int × Int)) → Option (List (Int × Int)) := fun (i, b11) =>
  br (decide (i < (x1.length : Int))) (
  bnd (ref09_Without N Zy Zu Zx Zv Zz Zw ([] : List Int)) fun x2 =>
  chk (0 ≤ i ∧ i < (x1.length : Int)) <|
  bnd (ref09_covered N Zy Zu Zx Zv Zz Zw x2 ((x1.getD i.toNat default).1) ((x1.getD i.toNat default).2)) fun x3 =>
  br (!x3) (
  chk (0 ≤ i ∧ i < (x1.length : Int)) <|
  chk (b11.length + ([((x1.getD i.toNat default).1, (x1.getD i.toNat default).2)] : List (Int × Int)).length ≤ 1000000000) <|
  rec (w64 (i + (1 : Int)), (b11 ++ ([((x1.getD i.toNat default).1, (x1.getD i.toNat default).2)] : List (Int × Int))))) (
  rec (w64 (i + (1 : Int)), b11))) (
  K_ b11)
def ref09_Holes (N : Nat) (Zy : List (List Int)) (Zu : List (ByteArray × Int × Int × Int × Int × Int × Int)) (Zx : List (Int × Int)) (Zv : Int) (Zz : Int) (Zw : Int) : Option (List (Int × Int)) :=
  bnd (ref09_Points N Zy) fun x1 =>
  jn (τ := (List (Int × Int))) (fun (b1 : (List (Int × Int))) =>
    some b1) fun K_ =>
  rds (ref09_Holes.b1 N Zy Zu Zx Zv Zz Zw x1 K_) N ((0 : Int), ([] : List (Int × Int)))

def ref09_SamePairs.b1 (N : Nat) (a : List (Int × Int)) (b : List (Int × Int)) (K_ : Unit → Option Bool) (rec : Int → Option Bool) : Int → Option Bool := fun i =>
  br (decide (i < (a.length : Int))) (
  chk (0 ≤ i ∧ i < (a.length : Int)) <|
  chk (0 ≤ i ∧ i < (b.length : Int)) <|
  br (!(((a.getD i.toNat default).1 == (b.getD i.toNat default).1) && ((a.getD i.toNat default).2 == (b.getD i.toNat default).2))) (
  some false) (
  rec (w64 (i + (1 : Int))))) (
  K_ ())
def ref09_SamePairs (N : Nat) (a : List (Int × Int)) (b : List (Int × Int)) : Option Bool :=
  br (((a.length : Int) != (b.length : Int))) (
  some false) (
  jn (τ := Unit) (fun (_ : Unit) =>
    some true) fun K_ =>
  rds (ref09_SamePairs.b1 N a b K_) N (0 : Int))

def ref09_CoveredBy.b1 (N : Nat) (Zy : List (List Int)) (Zu : List (ByteArray × Int × Int × Int × Int × Int × Int)) (Zx : List (Int × Int)) (Zv : Int) (Zz : Int) (Zw : Int) (x1 : List (Int × Int)) (K_ : List Int → Option (List Int)) (rec : Int × List Int → Option (List Int)) : Int × List Int → Option (List Int) := fun (i, b11) =>
  br (decide (i < (x1.length : Int))) (
  bnd (ref09_Without N Zy Zu Zx Zv Zz Zw ([] : List Int)) fun x2 =>
  chk (0 ≤ i ∧ i < (x1.length : Int)) <|
  bnd (ref09_ServerAt N Zy Zu Zx Zv Zz Zw x2 ((x1.getD i.toNat default).1) ((x1.getD i.toNat default).2)) fun (x3, x31, x32) =>
  br ((x32 && (decide (x31 ≥ Zw)))) (
  chk (0 ≤ x3 ∧ x3 < (b11.length : Int)) <|
  chk (0 ≤ x3 ∧ x3 < (b11.length : Int)) <|
  rec (w64 (i + (1 : Int)), (b11.set x3.toNat (w64 ((b11.getD x3.toNat 0) + (1 : Int)))))) (
  rec (w64 (i + (1 : Int)), b11))) (
  K_ b11)
def ref09_CoveredBy (N : Nat) (Zy : List (List Int)) (Zu : List (ByteArray × Int × Int × Int × Int × Int × Int)) (Zx : List (Int × Int)) (Zv : Int) (Zz : Int) (Zw : Int) : Option (List Int) :=
  chk (0 ≤ (Zu.length : Int) ∧ (Zu.length : Int) ≤ 1000000000) <|
  bnd (ref09_Points N Zy) fun x1 =>
  jn (τ := List Int) (fun (b1 : List Int) =>
    some b1) fun K_ =>
  rds (ref09_CoveredBy.b1 N Zy Zu Zx Zv Zz Zw x1 K_) N ((0 : Int), (List.replicate (Zu.length : Int).toNat (0 : Int)))

def base_Ints.b1 (N : Nat) (a : List Int) (b : List Int) (K_ : Unit → Option Bool) (rec : Int → Option Bool) : Int → Option Bool := fun i =>
  br (decide (i < (a.length : Int))) (
  chk (0 ≤ i ∧ i < (a.length : Int)) <|
  chk (0 ≤ i ∧ i < (b.length : Int)) <|
  br (((a.getD i.toNat 0) != (b.getD i.toNat 0))) (
  some false) (
  rec (w64 (i + (1 : Int))))) (
  K_ ())
def base_Ints (N : Nat) (a : List Int) (b : List Int) : Option Bool :=
  br (((a.length : Int) != (b.length : Int))) (
  some false) (
  jn (τ := Unit) (fun (_ : Unit) =>
    some true) fun K_ =>
  rds (base_Ints.b1 N a b K_) N (0 : Int))

def law09_PlanHoles.b1 (N : Nat) (x6 : List Int) (K_ : Int → Option Bool) (rec : Int × Int → Option Bool) : Int × Int → Option Bool := fun (sum1, i) =>
  br (decide (i < (x6.length : Int))) (
  chk (0 ≤ i ∧ i < (x6.length : Int)) <|
  rec (w64 (sum1 + (x6.getD i.toNat 0)), w64 (i + (1 : Int)))) (
  K_ sum1)
def law09_PlanHoles (N : Nat) (Zy : List (List Int)) (Zu : List (ByteArray × Int × Int × Int × Int × Int × Int)) (Zx : List (Int × Int)) (Zv : Int) (Zz : Int) (Zw : Int) : Option Bool :=
  bnd (law09_awake N ) fun x1 =>
  br (!x1) (
  some false) (
  bnd (law09_Few N Zy Zu Zx Zv Zz Zw) fun x2 =>
  br (!x2) (
  some true) (
  bnd (ref09_Copy N Zy Zu Zx Zv Zz Zw) fun (x3, x31, x32, x33, x34, x35) =>
  bnd (plan_Holes N x3 x31 x32 x33 x34 x35) fun (x4, x41) =>
  bnd (ref09_Copy N Zy Zu Zx Zv Zz Zw) fun (x5, x51, x52, x53, x54, x55) =>
  bnd (plan_CoveredBy N x5 x51 x52 x53 x54 x55) fun (x6, x61) =>
  bnd (ref09_PlanErr N Zy Zu Zx Zv Zz Zw) fun x7 =>
  br ((x7 != (0 : Int))) (
  some (((x41 == x7) && (x61 == x7)) && (w64 ((x4.length : Int) + (x6.length : Int)) == (0 : Int)))) (
  bnd (grd (!(x41 != (0 : Int))) default (ref09_Holes N Zy Zu Zx Zv Zz Zw)) fun x8 =>
  bnd (grd (!(x41 != (0 : Int))) false (ref09_SamePairs N x4 x8)) fun x9 =>
  bnd (grd (!(((x41 != (0 : Int)) || (!x9)) || (x61 != (0 : Int)))) default (ref09_CoveredBy N Zy Zu Zx Zv Zz Zw)) fun x10 =>
  bnd (grd (!(((x41 != (0 : Int)) || (!x9)) || (x61 != (0 : Int)))) false (base_Ints N x6 x10)) fun x11 =>
  br (((((x41 != (0 : Int)) || (!x9)) || (x61 != (0 : Int))) || (!x11))) (
  some false) (
  jn (τ := Int) (fun (sum : Int) =>
    chk (0 ≤ (0 : Int) ∧ (0 : Int) < (Zy.length : Int)) <|
    some (sum == w64 ((Zy.length : Int) * ((Zy.getD 0 default).length : Int)))) fun K_ =>
  rds (law09_PlanHoles.b1 N x6 K_) N ((x4.length : Int), (0 : Int))))))

end
end Go.Sh
