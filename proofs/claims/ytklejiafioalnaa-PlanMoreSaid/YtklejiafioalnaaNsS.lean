import Derived.Test.YtklejiafioalnaaNsH
set_option linter.all false
namespace Go.Sh
open Go.PW
noncomputable section
def law09_raster.b1 (N : Nat) (Z14 : List (List Int)) (K_ : Unit → Option Bool) (rec : Int → Option Bool) : Int → Option Bool := fun i =>
  br (decide (i < (Z14.length : Int))) (
  chk (0 ≤ i ∧ i < (Z14.length : Int)) <|
  chk ((decide (((Z14.getD i.toNat default).length : Int) > (5 : Int))) = true → 0 ≤ i ∧ i < (Z14.length : Int)) <|
  chk ((!((decide (((Z14.getD i.toNat default).length : Int) > (5 : Int))) && (decide (((Z14.getD i.toNat default).length : Int) ≤ (12 : Int))))) = true → 0 ≤ i ∧ i < (Z14.length : Int)) <|
  br ((((decide (((Z14.getD i.toNat default).length : Int) > (5 : Int))) && (decide (((Z14.getD i.toNat default).length : Int) ≤ (12 : Int)))) || (decide (((Z14.getD i.toNat default).length : Int) > (14 : Int))))) (
  some false) (
  rec (w64 (i + (1 : Int))))) (
  K_ ())
def law09_raster (N : Nat) (Z14 : List (List Int)) : Option Bool :=
  br ((((decide ((Z14.length : Int) > (5 : Int))) && (decide ((Z14.length : Int) ≤ (12 : Int)))) || (decide ((Z14.length : Int) > (14 : Int))))) (
  some false) (
  jn (τ := Unit) (fun (_ : Unit) =>
    some true) fun K_ =>
  rds (law09_raster.b1 N Z14 K_) N (0 : Int))

def base_CopyInts (N : Nat) (l : List Int) : Option (List Int) :=
  chk (([] : List Int).length + l.length ≤ 1000000000) <|
  some (([] : List Int) ++ l)

def base_CopyLists.b1 (N : Nat) (l : List (List Int)) (K_ : List (List Int) → Option (List (List Int))) (rec : Int × List (List Int) → Option (List (List Int))) : Int × List (List Int) → Option (List (List Int)) := fun (i, b01) =>
  br (decide (i < (l.length : Int))) (
  chk (0 ≤ i ∧ i < (l.length : Int)) <|
  bnd (base_CopyInts N (l.getD i.toNat default)) fun x1 =>
  chk (b01.length + ([x1] : List (List Int)).length ≤ 1000000000) <|
  rec (w64 (i + (1 : Int)), (b01 ++ ([x1] : List (List Int))))) (
  K_ b01)
def base_CopyLists (N : Nat) (l : List (List Int)) : Option (List (List Int)) :=
  jn (τ := List (List Int)) (fun (b0 : List (List Int)) =>
    some b0) fun K_ =>
  rds (base_CopyLists.b1 N l K_) N ((0 : Int), ([] : List (List Int)))

def ref09_CopyRaster (N : Nat) (Z14 : List (List Int)) : Option (List (List Int)) :=
  bnd (base_CopyLists N Z14) fun x1 =>
  some x1

def plan_unless (N : Nat) (ok : Bool) (e : Int) : Option Int :=
  br (ok) (
  some (0 : Int)) (
  some e)

def plan_first.b1 (N : Nat) (l : List Int) (K_ : Unit → Option Int) (rec : Int → Option Int) : Int → Option Int := fun t7 =>
  br (decide (t7 < (l.length : Int))) (
  chk (0 ≤ t7 ∧ t7 < (l.length : Int)) <|
  br (((l.getD t7.toNat 0) != (0 : Int))) (
  some (l.getD t7.toNat 0)) (
  rec (w64 (t7 + (1 : Int))))) (
  K_ ())
def plan_first (N : Nat) (l : List Int) : Option Int :=
  jn (τ := Unit) (fun (_ : Unit) =>
    some (0 : Int)) fun K_ =>
  rds (plan_first.b1 N l K_) N (0 : Int)

def slices_IndexFunc_ii.b1 (N : Nat) (s : List Int) (f : Int → Option Bool) (K_ : Unit → Option Int) (rec : Int → Option Int) : Int → Option Int := fun t8 =>
  br (decide (t8 < (s.length : Int))) (
  chk (0 ≤ t8 ∧ t8 < (s.length : Int)) <|
  bnd (f (s.getD t8.toNat 0)) fun x1 =>
  br (x1) (
  some t8) (
  rec (w64 (t8 + (1 : Int))))) (
  K_ ())
def slices_IndexFunc_ii (N : Nat) (s : List Int) (f : Int → Option Bool) : Option Int :=
  jn (τ := Unit) (fun (_ : Unit) =>
    some (-1 : Int)) fun K_ =>
  rds (slices_IndexFunc_ii.b1 N s f K_) N (0 : Int)

def plan_within (N : Nat) (n : Int) (lo : Int) (hi : Int) : Option Bool :=
  some ((decide (lo ≤ n)) && (decide (n ≤ hi)))

def plan_CheckRaster_1 (N : Nat) (n : Int) : Option Bool :=
  bnd (plan_within N n (0 : Int) (5000 : Int)) fun x1 =>
  some (!x1)

def plan_CheckRaster.b1 (N : Nat) (Z14 : List (List Int)) (K_ : Unit → Option (Int × Int × Int)) (rec : Int → Option (Int × Int × Int)) : Int → Option (Int × Int × Int) := fun t28 =>
  br (decide (t28 < (Z14.length : Int))) (
  chk (0 ≤ t28 ∧ t28 < (Z14.length : Int)) <|
  chk ((decide (((Z14.getD t28.toNat default).length : Int) > (0 : Int))) = true → 0 ≤ (0 : Int) ∧ (0 : Int) < (Z14.length : Int)) <|
  bnd (plan_unless N ((decide (((Z14.getD t28.toNat default).length : Int) > (0 : Int))) && (((Z14.getD t28.toNat default).length : Int) == ((Z14.getD 0 default).length : Int))) (10 : Int)) fun x4 =>
  bnd (plan_unless N (decide (((Z14.getD t28.toNat default).length : Int) ≤ (12 : Int))) (8 : Int)) fun x5 =>
  bnd (plan_first N ([x4, x5] : List Int)) fun x6 =>
  br ((x6 != (0 : Int))) (
  some (t28, (0 : Int), x6)) (
  bnd (slices_IndexFunc_ii N (Z14.getD t28.toNat default) (fun y0 => plan_CheckRaster_1 N y0)) fun x7 =>
  br (decide (x7 ≥ (0 : Int))) (
  some (t28, x7, (2 : Int))) (
  rec (w64 (t28 + (1 : Int)))))) (
  K_ ())
def plan_CheckRaster (N : Nat) (Z14 : List (List Int)) : Option (Int × Int × Int) :=
  bnd (plan_unless N (decide ((Z14.length : Int) > (0 : Int))) (10 : Int)) fun x1 =>
  bnd (plan_unless N (decide ((Z14.length : Int) ≤ (12 : Int))) (8 : Int)) fun x2 =>
  bnd (plan_first N ([x1, x2] : List Int)) fun x3 =>
  br ((x3 != (0 : Int))) (
  some ((0 : Int), (0 : Int), x3)) (
  jn (τ := Unit) (fun (_ : Unit) =>
    some ((0 : Int), (0 : Int), (0 : Int))) fun K_ =>
  rds (plan_CheckRaster.b1 N Z14 K_) N (0 : Int))

def plan_rasterErr (N : Nat) (Z14 : List (List Int)) : Option Int :=
  bnd (plan_CheckRaster N Z14) fun (x1, x11, x12) =>
  some x12

def plan_isName.b1 (N : Nat) (s : ByteArray) (K_ : Unit → Option Bool) (rec : Int → Option Bool) : Int → Option Bool := fun t9 =>
  br (decide (t9 < ((bytesL s).length : Int))) (
  chk (0 ≤ t9 ∧ t9 < ((bytesL s).length : Int)) <|
  br (((!(((decide (((bytesL s).getD t9.toNat 0) ≥ (97 : Int))) && (decide (((bytesL s).getD t9.toNat 0) ≤ (122 : Int)))) || ((decide (((bytesL s).getD t9.toNat 0) ≥ (65 : Int))) && (decide (((bytesL s).getD t9.toNat 0) ≤ (90 : Int)))))) && ((t9 == (0 : Int)) || ((((bytesL s).getD t9.toNat 0) != (45 : Int)) && ((decide (((bytesL s).getD t9.toNat 0) < (48 : Int))) || (decide (((bytesL s).getD t9.toNat 0) > (57 : Int)))))))) (
  some false) (
  rec (w64 (t9 + (1 : Int))))) (
  K_ ())
def plan_isName (N : Nat) (s : ByteArray) : Option Bool :=
  jn (τ := Unit) (fun (_ : Unit) =>
    some ((!(s.toList == (⟨#[]⟩ : ByteArray).toList)) && (decide ((s.size : Int) ≤ (12 : Int))))) fun K_ =>
  rds (plan_isName.b1 N s K_) N (0 : Int)

def plan_isIdentity (N : Nat) (n : Int) : Option Bool :=
  bnd (plan_within N n (0 : Int) (1007 : Int)) fun x1 =>
  some x1

def plan_ownErr (N : Nat) (Ze : ByteArray) (Zc : Int) (Za : Int) (Zb : Int) (Zd : Int) (Zf : Int) (Zg : Int) : Option Int :=
  bnd (plan_isName N Ze) fun x1 =>
  bnd (plan_unless N x1 (4 : Int)) fun x2 =>
  bnd (plan_isIdentity N Zc) fun x3 =>
  bnd (plan_unless N x3 (2 : Int)) fun x4 =>
  bnd (plan_first N ([x2, x4] : List Int)) fun x5 =>
  some x5

def plan_pointErr (N : Nat) (Z14 : List (List Int)) (at_0 : Int) (at_1 : Int) : Option Int :=
  bnd (plan_within N at_0 (0 : Int) (w64 ((Z14.length : Int) - (1 : Int)))) fun x1 =>
  chk (x1 = true → 0 ≤ (0 : Int) ∧ (0 : Int) < (Z14.length : Int)) <|
  bnd (grd x1 false (plan_within N at_1 (0 : Int) (w64 (((Z14.getD 0 default).length : Int) - (1 : Int))))) fun x2 =>
  bnd (plan_unless N (x1 && x2) (6 : Int)) fun x3 =>
  some x3

def plan_isLevel (N : Nat) (n : Int) : Option Bool :=
  bnd (plan_within N n (-2000 : Int) (1000 : Int)) fun x1 =>
  some x1

def plan_numbersErr (N : Nat) (Ze : ByteArray) (Zc : Int) (Za : Int) (Zb : Int) (Zd : Int) (Zf : Int) (Zg : Int) : Option Int :=
  bnd (plan_within N Zd (1 : Int) (200 : Int)) fun x1 =>
  bnd (grd x1 false (plan_isLevel N Zf)) fun x2 =>
  bnd (grd (x1 && x2) false (plan_within N Zg (0 : Int) (11 : Int))) fun x3 =>
  bnd (plan_unless N ((x1 && x2) && x3) (2 : Int)) fun x4 =>
  some x4

def plan_CheckCell (N : Nat) (Z14 : List (List Int)) (Ze : ByteArray) (Zc : Int) (Za : Int) (Zb : Int) (Zd : Int) (Zf : Int) (Zg : Int) : Option Int :=
  bnd (plan_rasterErr N Z14) fun x1 =>
  bnd (plan_ownErr N Ze Zc Za Zb Zd Zf Zg) fun x2 =>
  bnd (plan_pointErr N Z14 Za Zb) fun x3 =>
  bnd (plan_numbersErr N Ze Zc Za Zb Zd Zf Zg) fun x4 =>
  bnd (plan_first N ([x1, x2, x3, x4] : List Int)) fun x5 =>
  some x5

def base_Within (N : Nat) (n : Int) (lo : Int) (hi : Int) : Option Bool :=
  some ((decide (lo ≤ n)) && (decide (n ≤ hi)))

def ref09_CheckRaster.b2 (N : Nat) (Z14 : List (List Int)) (i : Int) (K_1 : Unit → Option (Int × Int × Int)) (rec1 : Int → Option (Int × Int × Int)) : Int → Option (Int × Int × Int) := fun k =>
  chk (0 ≤ i ∧ i < (Z14.length : Int)) <|
  br (decide (k < ((Z14.getD i.toNat default).length : Int))) (
  chk (0 ≤ i ∧ i < (Z14.length : Int)) <|
  chk (0 ≤ k ∧ k < ((Z14.getD i.toNat default).length : Int)) <|
  bnd (base_Within N ((Z14.getD i.toNat default).getD k.toNat 0) (0 : Int) (5000 : Int)) fun x1 =>
  br (!x1) (
  some (i, k, (2 : Int))) (
  rec1 (w64 (k + (1 : Int))))) (
  K_1 ())
def ref09_CheckRaster.b1 (N : Nat) (Z14 : List (List Int)) (K_ : Unit → Option (Int × Int × Int)) (rec : Int → Option (Int × Int × Int)) : Int → Option (Int × Int × Int) := fun i =>
  br (decide (i < (Z14.length : Int))) (
  jn (τ := Unit) (fun (_ : Unit) =>
    rec (w64 (i + (1 : Int)))) fun K_1 =>
  chk (0 ≤ i ∧ i < (Z14.length : Int)) <|
  chk ((!(((Z14.getD i.toNat default).length : Int) == (0 : Int))) = true → 0 ≤ i ∧ i < (Z14.length : Int)) <|
  chk ((!(((Z14.getD i.toNat default).length : Int) == (0 : Int))) = true → 0 ≤ (0 : Int) ∧ (0 : Int) < (Z14.length : Int)) <|
  br (((((Z14.getD i.toNat default).length : Int) == (0 : Int)) || (((Z14.getD i.toNat default).length : Int) != ((Z14.getD 0 default).length : Int)))) (
  some (i, (0 : Int), (10 : Int))) (
  chk (0 ≤ i ∧ i < (Z14.length : Int)) <|
  br (decide (((Z14.getD i.toNat default).length : Int) > (12 : Int))) (
  some (i, (0 : Int), (8 : Int))) (
  rds (ref09_CheckRaster.b2 N Z14 i K_1) N (0 : Int)))) (
  K_ ())
def ref09_CheckRaster (N : Nat) (Z14 : List (List Int)) : Option (Int × Int × Int) :=
  br (((Z14.length : Int) == (0 : Int))) (
  some ((0 : Int), (0 : Int), (10 : Int))) (
  br (decide ((Z14.length : Int) > (12 : Int))) (
  some ((0 : Int), (0 : Int), (8 : Int))) (
  jn (τ := Unit) (fun (_ : Unit) =>
    some ((0 : Int), (0 : Int), (0 : Int))) fun K_ =>
  rds (ref09_CheckRaster.b1 N Z14 K_) N (0 : Int)))

def ref09_RasterErr (N : Nat) (Z14 : List (List Int)) : Option Int :=
  bnd (ref09_CheckRaster N Z14) fun (x1, x11, x12) =>
  some x12

def base_IsName.b1 (N : Nat) (s : ByteArray) (K_ : Unit → Option Bool) (rec : Int → Option Bool) : Int → Option Bool := fun i =>
  br (decide (i < (s.size : Int))) (
  chk (0 ≤ i ∧ i < (s.size : Int)) <|
  br (((!(((decide ((s.data.getD i.toNat 0).toNat ≥ (97 : Int))) && (decide ((s.data.getD i.toNat 0).toNat ≤ (122 : Int)))) || ((decide ((s.data.getD i.toNat 0).toNat ≥ (65 : Int))) && (decide ((s.data.getD i.toNat 0).toNat ≤ (90 : Int)))))) && ((i == (0 : Int)) || (((s.data.getD i.toNat 0).toNat != (45 : Int)) && ((decide ((s.data.getD i.toNat 0).toNat < (48 : Int))) || (decide ((s.data.getD i.toNat 0).toNat > (57 : Int)))))))) (
  some false) (
  rec (w64 (i + (1 : Int))))) (
  K_ ())
def base_IsName (N : Nat) (s : ByteArray) : Option Bool :=
  br (((decide ((s.size : Int) < (1 : Int))) || (decide ((s.size : Int) > (12 : Int))))) (
  some false) (
  jn (τ := Unit) (fun (_ : Unit) =>
    some true) fun K_ =>
  rds (base_IsName.b1 N s K_) N (0 : Int))

def ref09_IdentityErr (N : Nat) (n : Int) : Option Int :=
  bnd (base_Within N n (0 : Int) (1007 : Int)) fun x1 =>
  br (!x1) (
  some (2 : Int)) (
  some (0 : Int))

def ref09_ItselfErr (N : Nat) (Ze : ByteArray) (Zc : Int) (Za : Int) (Zb : Int) (Zd : Int) (Zf : Int) (Zg : Int) : Option Int :=
  bnd (base_IsName N Ze) fun x1 =>
  br (!x1) (
  some (4 : Int)) (
  bnd (ref09_IdentityErr N Zc) fun x2 =>
  some x2)

def ref09_PointErr (N : Nat) (Z14 : List (List Int)) (at_0 : Int) (at_1 : Int) : Option Int :=
  bnd (base_Within N at_0 (0 : Int) (w64 ((Z14.length : Int) - (1 : Int)))) fun x1 =>
  chk (x1 = true → 0 ≤ (0 : Int) ∧ (0 : Int) < (Z14.length : Int)) <|
  bnd (grd x1 false (base_Within N at_1 (0 : Int) (w64 (((Z14.getD 0 default).length : Int) - (1 : Int))))) fun x2 =>
  br (((!x1) || (!x2))) (
  some (6 : Int)) (
  some (0 : Int))

def ref09_isTilt (N : Nat) (n : Int) : Option Bool :=
  bnd (base_Within N n (0 : Int) (11 : Int)) fun x1 =>
  some x1

def ref09_NumbersErr (N : Nat) (Ze : ByteArray) (Zc : Int) (Za : Int) (Zb : Int) (Zd : Int) (Zf : Int) (Zg : Int) : Option Int :=
  bnd (base_Within N Zd (1 : Int) (200 : Int)) fun x1 =>
  bnd (grd x1 false (base_Within N Zf (-2000 : Int) (1000 : Int))) fun x2 =>
  bnd (grd (!((!x1) || (!x2))) false (ref09_isTilt N Zg)) fun x3 =>
  br ((((!x1) || (!x2)) || (!x3))) (
  some (2 : Int)) (
  some (0 : Int))

def ref09_CellErr (N : Nat) (Z14 : List (List Int)) (Ze : ByteArray) (Zc : Int) (Za : Int) (Zb : Int) (Zd : Int) (Zf : Int) (Zg : Int) : Option Int :=
  bnd (ref09_RasterErr N Z14) fun x1 =>
  br ((x1 != (0 : Int))) (
  some x1) (
  bnd (ref09_ItselfErr N Ze Zc Za Zb Zd Zf Zg) fun x2 =>
  br ((x2 != (0 : Int))) (
  some x2) (
  bnd (ref09_PointErr N Z14 Za Zb) fun x3 =>
  br ((x3 != (0 : Int))) (
  some x3) (
  bnd (ref09_NumbersErr N Ze Zc Za Zb Zd Zf Zg) fun x4 =>
  some x4)))

def plan_sees_1 (N : Nat) (p_0 : Int) (p_1 : Int) (Z8 : List (List Int)) : Option Int :=
  chk (0 ≤ p_0 ∧ p_0 < (Z8.length : Int)) <|
  chk (0 ≤ p_1 ∧ p_1 < ((Z8.getD p_0.toNat default).length : Int)) <|
  some ((Z8.getD p_0.toNat default).getD p_1.toNat 0)

def plan_size (N : Nat) (n : Int) : Option Int :=
  some (if n < w64 (0 - n) then w64 (0 - n) else n)

def plan_steps (N : Nat) (a_0 : Int) (a_1 : Int) (b_0 : Int) (b_1 : Int) : Option Int :=
  bnd (plan_size N (w64 (a_0 - b_0))) fun x1 =>
  bnd (plan_size N (w64 (a_1 - b_1))) fun x2 =>
  some (if x1 < x2 then x2 else x1)

def plan_nearest (N : Nat) (n : Int) (by_ : Int) : Option Int :=
  chk (w64 ((2 : Int) * by_) ≠ 0) <|
  chk (w64 ((2 : Int) * by_) ≠ 0) <|
  br (decide ((w64 ((w64 ((2 : Int) * n)) + by_)).tmod (w64 ((2 : Int) * by_)) < (0 : Int))) (
  some (w64 ((w64 ((w64 ((w64 ((2 : Int) * n)) + by_)).tdiv (w64 ((2 : Int) * by_)))) - (1 : Int)))) (
  some (w64 ((w64 ((w64 ((2 : Int) * n)) + by_)).tdiv (w64 ((2 : Int) * by_)))))

def plan_sees.b1 (N : Nat) (Z14 : List (List Int)) (Za : Int) (Zb : Int) (Zd : Int) (at_0 : Int) (at_1 : Int) (x1 : Int) (x2 : Int) (x3 : Int) (K_ : Unit → Option Bool) (rec : Int → Option Bool) : Int → Option Bool := fun k =>
  br (decide (k < x1)) (
  jn (τ := Unit) (fun (_ : Unit) =>
    rec (w64 (k + (1 : Int)))) fun K_1 =>
  jn (τ := Int × Int) (fun (b3, b31) =>
    bnd (plan_sees_1 N b3 b31 Z14) fun x6 =>
    br (decide (w64 (x1 * x6) > w64 ((w64 ((w64 (x1 - k)) * (w64 (x2 + Zd)))) + (w64 (k * (w64 (x3 + (2 : Int)))))))) (
    some false) (
    K_1 ())) fun K_2 =>
  bnd (plan_nearest N (w64 (k * (w64 (at_0 - Za)))) x1) fun x4 =>
  bnd (plan_nearest N (w64 (k * (w64 (at_1 - Zb)))) x1) fun x5 =>
  K_2 (w64 (Za + x4), w64 (Zb + x5))) (
  K_ ())
def plan_sees (N : Nat) (Z14 : List (List Int)) (Ze : ByteArray) (Zc : Int) (Za : Int) (Zb : Int) (Zd : Int) (Zf : Int) (Zg : Int) (at_0 : Int) (at_1 : Int) : Option Bool :=
  bnd (plan_steps N Za Zb at_0 at_1) fun x1 =>
  bnd (plan_sees_1 N Za Zb Z14) fun x2 =>
  bnd (plan_sees_1 N at_0 at_1 Z14) fun x3 =>
  jn (τ := Unit) (fun (_ : Unit) =>
    some true) fun K_ =>
  rds (plan_sees.b1 N Z14 Za Zb Zd at_0 at_1 x1 x2 x3 K_) N (1 : Int)

def law09_Few.b1 (N : Nat) (Zy : List (ByteArray × Int × Int × Int × Int × Int × Int)) (K_ : Unit → Option Bool) (rec : Int → Option Bool) : Int → Option Bool := fun i =>
  br (decide (i < (Zy.length : Int))) (
  chk (0 ≤ i ∧ i < (Zy.length : Int)) <|
  br (decide ((((Zy.getD i.toNat default).1).size : Int) > (20 : Int))) (
  some false) (
  rec (w64 (i + (1 : Int))))) (
  K_ ())
def law09_Few (N : Nat) (Z12 : List (List Int)) (Zy : List (ByteArray × Int × Int × Int × Int × Int × Int)) (Z11 : List (Int × Int)) (Zz : Int) (Z13 : Int) (Z10 : Int) : Option Bool :=
  bnd (law09_raster N Z12) fun x1 =>
  br ((((((!x1) || ((decide ((Zy.length : Int) > (3 : Int))) && (decide ((Zy.length : Int) ≤ (6 : Int))))) || (decide ((Zy.length : Int) > (8 : Int)))) || ((decide ((Z11.length : Int) > (5 : Int))) && (decide ((Z11.length : Int) ≤ (12 : Int))))) || (decide ((Z11.length : Int) > (14 : Int))))) (
  some false) (
  jn (τ := Unit) (fun (_ : Unit) =>
    some true) fun K_ =>
  rds (law09_Few.b1 N Zy K_) N (0 : Int))

def base_HasText.b1 (N : Nat) (l : List ByteArray) (s : ByteArray) (K_ : Unit → Option Bool) (rec : Int → Option Bool) : Int → Option Bool := fun i =>
  br (decide (i < (l.length : Int))) (
  chk (0 ≤ i ∧ i < (l.length : Int)) <|
  br (((l.getD i.toNat default).toList == s.toList)) (
  some true) (
  rec (w64 (i + (1 : Int))))) (
  K_ ())
def base_HasText (N : Nat) (l : List ByteArray) (s : ByteArray) : Option Bool :=
  jn (τ := Unit) (fun (_ : Unit) =>
    some false) fun K_ =>
  rds (base_HasText.b1 N l s K_) N (0 : Int)

def ref09_PlanErr.b1 (N : Nat) (Z12 : List (List Int)) (Zy : List (ByteArray × Int × Int × Int × Int × Int × Int)) (K_ : Unit → Option Int) (rec : Int × List ByteArray → Option Int) : Int × List ByteArray → Option Int := fun (i, b1) =>
  br (decide (i < (Zy.length : Int))) (
  chk (0 ≤ i ∧ i < (Zy.length : Int)) <|
  bnd (ref09_CellErr N Z12 ((Zy.getD i.toNat default).1) ((Zy.getD i.toNat default).2.1) ((Zy.getD i.toNat default).2.2.1) ((Zy.getD i.toNat default).2.2.2.1) ((Zy.getD i.toNat default).2.2.2.2.1) ((Zy.getD i.toNat default).2.2.2.2.2.1) ((Zy.getD i.toNat default).2.2.2.2.2.2)) fun x2 =>
  br ((x2 != (0 : Int))) (
  some x2) (
  chk (0 ≤ i ∧ i < (Zy.length : Int)) <|
  bnd (base_HasText N b1 ((Zy.getD i.toNat default).1)) fun x3 =>
  br (x3) (
  some (5 : Int)) (
  chk (0 ≤ i ∧ i < (Zy.length : Int)) <|
  chk (b1.length + ([(Zy.getD i.toNat default).1] : List ByteArray).length ≤ 1000000000) <|
  rec (w64 (i + (1 : Int)), (b1 ++ ([(Zy.getD i.toNat default).1] : List ByteArray)))))) (
  K_ ())
def ref09_PlanErr.b2 (N : Nat) (Z11 : List (Int × Int)) (K_1 : Unit → Option Int) (rec1 : Int → Option Int) : Int → Option Int := fun i1 =>
  br (decide (i1 < (Z11.length : Int))) (
  chk (0 ≤ i1 ∧ i1 < (Z11.length : Int)) <|
  bnd (base_Within N ((Z11.getD i1.toNat default).1) (0 : Int) (300 : Int)) fun x4 =>
  chk (x4 = true → 0 ≤ i1 ∧ i1 < (Z11.length : Int)) <|
  bnd (grd x4 false (base_Within N ((Z11.getD i1.toNat default).2) (0 : Int) (3000 : Int))) fun x5 =>
  br (((!x4) || (!x5))) (
  some (2 : Int)) (
  chk ((decide (i1 > (0 : Int))) = true → 0 ≤ i1 ∧ i1 < (Z11.length : Int)) <|
  chk ((decide (i1 > (0 : Int))) = true → 0 ≤ w64 (i1 - (1 : Int)) ∧ w64 (i1 - (1 : Int)) < (Z11.length : Int)) <|
  br (((decide (i1 > (0 : Int))) && (decide ((Z11.getD i1.toNat default).1 ≤ (Z11.getD ((w64 (i1 - (1 : Int))).toNat) default).1)))) (
  some (9 : Int)) (
  rec1 (w64 (i1 + (1 : Int)))))) (
  K_1 ())
def ref09_PlanErr (N : Nat) (Z12 : List (List Int)) (Zy : List (ByteArray × Int × Int × Int × Int × Int × Int)) (Z11 : List (Int × Int)) (Zz : Int) (Z13 : Int) (Z10 : Int) : Option Int :=
  bnd (ref09_RasterErr N Z12) fun x1 =>
  br ((x1 != (0 : Int))) (
  some x1) (
  br (((Zy.length : Int) == (0 : Int))) (
  some (10 : Int)) (
  br (decide ((Zy.length : Int) > (6 : Int))) (
  some (8 : Int)) (
  jn (τ := Unit) (fun (_ : Unit) =>
    br (((Z11.length : Int) == (0 : Int))) (
    some (10 : Int)) (
    br (decide ((Z11.length : Int) > (12 : Int))) (
    some (8 : Int)) (
    jn (τ := Unit) (fun (_ : Unit) =>
      bnd (base_Within N Zz (0 : Int) (3000 : Int)) fun x6 =>
      bnd (grd x6 false (base_Within N Z13 (0 : Int) (100 : Int))) fun x7 =>
      bnd (grd (!((!x6) || (!x7))) false (base_Within N Z10 (-2000 : Int) (1000 : Int))) fun x8 =>
      br ((((!x6) || (!x7)) || (!x8))) (
      some (2 : Int)) (
      some (0 : Int))) fun K_1 =>
    rds (ref09_PlanErr.b2 N Z11 K_1) N (0 : Int)))) fun K_ =>
  rds (ref09_PlanErr.b1 N Z12 Zy K_) N ((0 : Int), ([] : List ByteArray)))))

def plan_planErr_1 (N : Nat) (Zv : ByteArray) (Zt : Int) (Zr : Int) (Zs : Int) (Zu : Int) (Zw : Int) (Zx : Int) (Z5 : ByteArray) (Z3 : Int) (Z0 : Int) (Z1 : Int) (Z4 : Int) (Z7 : Int) (Z9 : Int) : Option Bool :=
  some (Zv.toList == Z5.toList)

def slices_IndexFunc_api_PlanCell_api_PlanCell.b1 (N : Nat) (s : List (ByteArray × Int × Int × Int × Int × Int × Int)) (f : ByteArray → Int → Int → Int → Int → Int → Int → Option Bool) (K_ : Unit → Option Int) (rec : Int → Option Int) : Int → Option Int := fun t8 =>
  br (decide (t8 < (s.length : Int))) (
  chk (0 ≤ t8 ∧ t8 < (s.length : Int)) <|
  bnd (f ((s.getD t8.toNat default).1) ((s.getD t8.toNat default).2.1) ((s.getD t8.toNat default).2.2.1) ((s.getD t8.toNat default).2.2.2.1) ((s.getD t8.toNat default).2.2.2.2.1) ((s.getD t8.toNat default).2.2.2.2.2.1) ((s.getD t8.toNat default).2.2.2.2.2.2)) fun x1 =>
  br (x1) (
  some t8) (
  rec (w64 (t8 + (1 : Int))))) (
  K_ ())
def slices_IndexFunc_api_PlanCell_api_PlanCell (N : Nat) (s : List (ByteArray × Int × Int × Int × Int × Int × Int)) (f : ByteArray → Int → Int → Int → Int → Int → Int → Option Bool) : Option Int :=
  jn (τ := Unit) (fun (_ : Unit) =>
    some (-1 : Int)) fun K_ =>
  rds (slices_IndexFunc_api_PlanCell_api_PlanCell.b1 N s f K_) N (0 : Int)

def slices_ContainsFunc_api_PlanCell_api_PlanCell (N : Nat) (s : List (ByteArray × Int × Int × Int × Int × Int × Int)) (f : ByteArray → Int → Int → Int → Int → Int → Int → Option Bool) : Option Bool :=
  bnd (slices_IndexFunc_api_PlanCell_api_PlanCell N s f) fun x1 =>
  some (decide (x1 ≥ (0 : Int)))

def plan_planErr.b1 (N : Nat) (Z12 : List (List Int)) (Zy : List (ByteArray × Int × Int × Int × Int × Int × Int)) (K_ : Unit → Option Int) (rec : Int → Option Int) : Int → Option Int := fun t34 =>
  br (decide (t34 < (Zy.length : Int))) (
  chk (0 ≤ t34 ∧ t34 < (Zy.length : Int)) <|
  chk (0 ≤ (0 : Int) ∧ (0 : Int) ≤ t34 ∧ t34 ≤ (Zy.length : Int)) <|
  bnd (slices_ContainsFunc_api_PlanCell_api_PlanCell N (Zy.take t34.toNat) (fun y0 y1 y2 y3 y4 y5 y6 => plan_planErr_1 N y0 y1 y2 y3 y4 y5 y6 ((Zy.getD t34.toNat default).1) ((Zy.getD t34.toNat default).2.1) ((Zy.getD t34.toNat default).2.2.1) ((Zy.getD t34.toNat default).2.2.2.1) ((Zy.getD t34.toNat default).2.2.2.2.1) ((Zy.getD t34.toNat default).2.2.2.2.2.1) ((Zy.getD t34.toNat default).2.2.2.2.2.2))) fun x5 =>
  bnd (plan_CheckCell N Z12 ((Zy.getD t34.toNat default).1) ((Zy.getD t34.toNat default).2.1) ((Zy.getD t34.toNat default).2.2.1) ((Zy.getD t34.toNat default).2.2.2.1) ((Zy.getD t34.toNat default).2.2.2.2.1) ((Zy.getD t34.toNat default).2.2.2.2.2.1) ((Zy.getD t34.toNat default).2.2.2.2.2.2)) fun x6 =>
  bnd (plan_unless N (!x5) (5 : Int)) fun x7 =>
  bnd (plan_first N ([x6, x7] : List Int)) fun x8 =>
  br ((x8 != (0 : Int))) (
  some x8) (
  rec (w64 (t34 + (1 : Int))))) (
  K_ ())
def plan_planErr.b2 (N : Nat) (Z11 : List (Int × Int)) (K_1 : Unit → Option Int) (rec1 : Int × Int → Option Int) : Int × Int → Option Int := fun (last, t76) =>
  br (decide (t76 < (Z11.length : Int))) (
  chk (0 ≤ t76 ∧ t76 < (Z11.length : Int)) <|
  bnd (plan_within N ((Z11.getD t76.toNat default).1) (0 : Int) (300 : Int)) fun x12 =>
  bnd (grd x12 false (plan_within N ((Z11.getD t76.toNat default).2) (0 : Int) (3000 : Int))) fun x13 =>
  bnd (plan_unless N (x12 && x13) (2 : Int)) fun x14 =>
  bnd (plan_unless N (decide ((Z11.getD t76.toNat default).1 > last)) (9 : Int)) fun x15 =>
  bnd (plan_first N ([x14, x15] : List Int)) fun x16 =>
  br ((x16 != (0 : Int))) (
  some x16) (
  rec1 ((Z11.getD t76.toNat default).1, w64 (t76 + (1 : Int))))) (
  K_1 ())
def plan_planErr (N : Nat) (Z12 : List (List Int)) (Zy : List (ByteArray × Int × Int × Int × Int × Int × Int)) (Z11 : List (Int × Int)) (Zz : Int) (Z13 : Int) (Z10 : Int) : Option Int :=
  bnd (plan_rasterErr N Z12) fun x1 =>
  bnd (plan_unless N (decide ((Zy.length : Int) > (0 : Int))) (10 : Int)) fun x2 =>
  bnd (plan_unless N (decide ((Zy.length : Int) ≤ (6 : Int))) (8 : Int)) fun x3 =>
  bnd (plan_first N ([x1, x2, x3] : List Int)) fun x4 =>
  br ((x4 != (0 : Int))) (
  some x4) (
  jn (τ := Unit) (fun (_ : Unit) =>
    bnd (plan_unless N (decide ((Z11.length : Int) > (0 : Int))) (10 : Int)) fun x9 =>
    bnd (plan_unless N (decide ((Z11.length : Int) ≤ (12 : Int))) (8 : Int)) fun x10 =>
    bnd (plan_first N ([x9, x10] : List Int)) fun x11 =>
    br ((x11 != (0 : Int))) (
    some x11) (
    jn (τ := Unit) (fun (_ : Unit) =>
      bnd (plan_within N Zz (0 : Int) (3000 : Int)) fun x17 =>
      bnd (grd x17 false (plan_within N Z13 (0 : Int) (100 : Int))) fun x18 =>
      bnd (grd (x17 && x18) false (plan_isLevel N Z10)) fun x19 =>
      bnd (plan_unless N ((x17 && x18) && x19) (2 : Int)) fun x20 =>
      some x20) fun K_1 =>
    rds (plan_planErr.b2 N Z11 K_1) N ((-1 : Int), (0 : Int)))) fun K_ =>
  rds (plan_planErr.b1 N Z12 Zy K_) N (0 : Int))

def plan_field_points (N : Nat) (Zl : List (List Int)) (Zh : List (ByteArray × Int × Int × Int × Int × Int × Int)) (Zk : List (Int × Int)) (Zi : Int) (Zm : Int) (Zj : Int) (f_width : Int) (f_levels : List (List (Int × Bool))) : Option Int :=
  some (w64 ((Zl.length : Int) * f_width))

def plan_field_point (N : Nat) (Zl : List (List Int)) (Zh : List (ByteArray × Int × Int × Int × Int × Int × Int)) (Zk : List (Int × Int)) (Zi : Int) (Zm : Int) (Zj : Int) (f_width : Int) (f_levels : List (List (Int × Bool))) (n : Int) : Option (Int × Int) :=
  chk (f_width ≠ 0) <|
  chk (f_width ≠ 0) <|
  some (w64 (n.tdiv f_width), n.tmod f_width)

def plan_square (N : Nat) (a_0 : Int) (a_1 : Int) (b_0 : Int) (b_1 : Int) : Option Int :=
  some (w64 ((w64 ((w64 (a_0 - b_0)) * (w64 (a_0 - b_0)))) + (w64 ((w64 (a_1 - b_1)) * (w64 (a_1 - b_1))))))

def plan_field_of_1 (N : Nat) (Zo : Int) (Zn : Int) (Z5 : ByteArray) (Z3 : Int) (Z0 : Int) (Z1 : Int) (Z4 : Int) (Z7 : Int) (Z9 : Int) (a2_0 : Int) (a2_1 : Int) : Option Bool :=
  bnd (plan_square N Z0 Z1 a2_0 a2_1) fun x1 =>
  some (decide (Zo ≥ x1))

def slices_IndexFunc_api_PlanLoss_api_PlanLoss.b1 (N : Nat) (s : List (Int × Int)) (f : Int → Int → Option Bool) (K_ : Unit → Option Int) (rec : Int → Option Int) : Int → Option Int := fun t8 =>
  br (decide (t8 < (s.length : Int))) (
  chk (0 ≤ t8 ∧ t8 < (s.length : Int)) <|
  bnd (f ((s.getD t8.toNat default).1) ((s.getD t8.toNat default).2)) fun x1 =>
  br (x1) (
  some t8) (
  rec (w64 (t8 + (1 : Int))))) (
  K_ ())
def slices_IndexFunc_api_PlanLoss_api_PlanLoss (N : Nat) (s : List (Int × Int)) (f : Int → Int → Option Bool) : Option Int :=
  jn (τ := Unit) (fun (_ : Unit) =>
    some (-1 : Int)) fun K_ =>
  rds (slices_IndexFunc_api_PlanLoss_api_PlanLoss.b1 N s f K_) N (0 : Int)

def plan_field_of.b1 (N : Nat) (Zl : List (List Int)) (Zh : List (ByteArray × Int × Int × Int × Int × Int × Int)) (Zk : List (Int × Int)) (Zi : Int) (Zm : Int) (Zj : Int) (f_width : Int) (f_levels : List (List (Int × Bool))) (Ze : ByteArray) (Zc : Int) (Za : Int) (Zb : Int) (Zd : Int) (Zf : Int) (Zg : Int) (K_ : (List (Int × Bool)) → Option (List (Int × Bool))) (x1 : Int) (rec : Int × (List (Int × Bool)) → Option (List (Int × Bool))) : Int × (List (Int × Bool)) → Option (List (Int × Bool)) := fun (t12, b11) =>
  br (decide (t12 < x1)) (
  bnd (plan_field_point N Zl Zh Zk Zi Zm Zj f_width f_levels t12) fun (x2, x21) =>
  bnd (slices_IndexFunc_api_PlanLoss_api_PlanLoss N Zk (fun y0 y1 => plan_field_of_1 N y0 y1 Ze Zc Za Zb Zd Zf Zg x2 x21)) fun x3 =>
  br (decide (x3 < (0 : Int))) (
  chk (b11.length + ([((0 : Int), false)] : List (Int × Bool)).length ≤ 1000000000) <|
  rec (w64 (t12 + (1 : Int)), (b11 ++ ([((0 : Int), false)] : List (Int × Bool))))) (
  chk (0 ≤ x3 ∧ x3 < (Zk.length : Int)) <|
  bnd (plan_steps N Za Zb x2 x21) fun x4 =>
  bnd (plan_size N (w64 ((w64 ((12 : Int) - Zg)) - x4))) fun x5 =>
  bnd (plan_sees N Zl Ze Zc Za Zb Zd Zf Zg x2 x21) fun x6 =>
  br (!x6) (
  chk (b11.length + ([(w64 ((w64 ((w64 (Zf - ((Zk.getD x3.toNat default).2))) - (w64 (Zm * x5)))) - Zi), true)] : List (Int × Bool)).length ≤ 1000000000) <|
  rec (w64 (t12 + (1 : Int)), (b11 ++ ([(w64 ((w64 ((w64 (Zf - ((Zk.getD x3.toNat default).2))) - (w64 (Zm * x5)))) - Zi), true)] : List (Int × Bool))))) (
  chk (b11.length + ([(w64 ((w64 (Zf - ((Zk.getD x3.toNat default).2))) - (w64 (Zm * x5))), true)] : List (Int × Bool)).length ≤ 1000000000) <|
  rec (w64 (t12 + (1 : Int)), (b11 ++ ([(w64 ((w64 (Zf - ((Zk.getD x3.toNat default).2))) - (w64 (Zm * x5))), true)] : List (Int × Bool))))))) (
  K_ b11)
def plan_field_of (N : Nat) (Zl : List (List Int)) (Zh : List (ByteArray × Int × Int × Int × Int × Int × Int)) (Zk : List (Int × Int)) (Zi : Int) (Zm : Int) (Zj : Int) (f_width : Int) (f_levels : List (List (Int × Bool))) (Ze : ByteArray) (Zc : Int) (Za : Int) (Zb : Int) (Zd : Int) (Zf : Int) (Zg : Int) : Option (List (Int × Bool)) :=
  jn (τ := (List (Int × Bool))) (fun (b1 : (List (Int × Bool))) =>
    some b1) fun K_ =>
  bnd (plan_field_points N Zl Zh Zk Zi Zm Zj f_width f_levels) fun x1 =>
  rds (plan_field_of.b1 N Zl Zh Zk Zi Zm Zj f_width f_levels Ze Zc Za Zb Zd Zf Zg K_ x1) N ((0 : Int), ([] : List (Int × Bool)))

def plan_field_server.b1 (N : Nat) (f_levels : List (List (Int × Bool))) (n : Int) (K_ : Int × Int × Bool → Option (Int × Int × Bool)) (rec : Int × Int × Int × Bool → Option (Int × Int × Bool)) : Int × Int × Int × Bool → Option (Int × Int × Bool) := fun (cell1, t15, b12, b13) =>
  br (decide (t15 < (f_levels.length : Int))) (
  chk (0 ≤ t15 ∧ t15 < (f_levels.length : Int)) <|
  chk (0 ≤ n ∧ n < ((f_levels.getD t15.toNat default).length : Int)) <|
  chk (((((f_levels.getD t15.toNat default).getD n.toNat default).2) && b13) = true → 0 ≤ n ∧ n < ((f_levels.getD t15.toNat default).length : Int)) <|
  br (((((f_levels.getD t15.toNat default).getD n.toNat default).2) && ((!b13) || (decide (((f_levels.getD t15.toNat default).getD n.toNat default).1 > b12))))) (
  chk (0 ≤ n ∧ n < ((f_levels.getD t15.toNat default).length : Int)) <|
  rec (t15, w64 (t15 + (1 : Int)), ((f_levels.getD t15.toNat default).getD n.toNat default).1, ((f_levels.getD t15.toNat default).getD n.toNat default).2)) (
  rec (cell1, w64 (t15 + (1 : Int)), b12, b13))) (
  K_ (cell1, b12, b13))
def plan_field_server (N : Nat) (Zl : List (List Int)) (Zh : List (ByteArray × Int × Int × Int × Int × Int × Int)) (Zk : List (Int × Int)) (Zi : Int) (Zm : Int) (Zj : Int) (f_width : Int) (f_levels : List (List (Int × Bool))) (n : Int) : Option (Int × Int × Bool) :=
  jn (τ := Int × Int × Bool) (fun (cell, b1, b11) =>
    some (cell, b1, b11)) fun K_ =>
  rds (plan_field_server.b1 N f_levels n K_) N ((-1 : Int), (0 : Int), (0 : Int), false)

def plan_field_covers (N : Nat) (Zl : List (List Int)) (Zh : List (ByteArray × Int × Int × Int × Int × Int × Int)) (Zk : List (Int × Int)) (Zi : Int) (Zm : Int) (Zj : Int) (f_width : Int) (f_levels : List (List (Int × Bool))) (l_n : Int) (l_is : Bool) : Option Bool :=
  some (l_is && (decide (l_n ≥ Zj)))

def plan_Holes.b1 (N : Nat) (Z12 : List (List Int)) (Zy : List (ByteArray × Int × Int × Int × Int × Int × Int)) (Z11 : List (Int × Int)) (Zz : Int) (Z13 : Int) (Z10 : Int) (K_ : (List (List (Int × Bool))) → Option ((List (Int × Int)) × Int)) (rec : Int × (List (List (Int × Bool))) → Option ((List (Int × Int)) × Int)) : Int × (List (List (Int × Bool))) → Option ((List (Int × Int)) × Int) := fun (t25, b31) =>
  br (decide (t25 < (Zy.length : Int))) (
  chk (0 ≤ t25 ∧ t25 < (Zy.length : Int)) <|
  bnd (plan_field_of N Z12 Zy Z11 Zz Z13 Z10 ((Z12.getD 0 default).length : Int) b31 ((Zy.getD t25.toNat default).1) ((Zy.getD t25.toNat default).2.1) ((Zy.getD t25.toNat default).2.2.1) ((Zy.getD t25.toNat default).2.2.2.1) ((Zy.getD t25.toNat default).2.2.2.2.1) ((Zy.getD t25.toNat default).2.2.2.2.2.1) ((Zy.getD t25.toNat default).2.2.2.2.2.2)) fun x2 =>
  chk (b31.length + ([x2] : List (List (Int × Bool))).length ≤ 1000000000) <|
  rec (w64 (t25 + (1 : Int)), (b31 ++ ([x2] : List (List (Int × Bool)))))) (
  K_ b31)
def plan_Holes.b2 (N : Nat) (Z12 : List (List Int)) (Zy : List (ByteArray × Int × Int × Int × Int × Int × Int)) (Z11 : List (Int × Int)) (Zz : Int) (Z13 : Int) (Z10 : Int) (b3 : List (List (Int × Bool))) (K_1 : (List (Int × Int)) → Option ((List (Int × Int)) × Int)) (x3 : Int) (rec1 : Int × (List (Int × Int)) → Option ((List (Int × Int)) × Int)) : Int × (List (Int × Int)) → Option ((List (Int × Int)) × Int) := fun (t20, b41) =>
  br (decide (t20 < x3)) (
  bnd (plan_field_server N Z12 Zy Z11 Zz Z13 Z10 ((Z12.getD 0 default).length : Int) b3 t20) fun (x4, x41, x42) =>
  bnd (plan_field_covers N Z12 Zy Z11 Zz Z13 Z10 ((Z12.getD 0 default).length : Int) b3 x41 x42) fun x5 =>
  br (!x5) (
  bnd (plan_field_point N Z12 Zy Z11 Zz Z13 Z10 ((Z12.getD 0 default).length : Int) b3 t20) fun (x6, x61) =>
  chk (b41.length + ([(x6, x61)] : List (Int × Int)).length ≤ 1000000000) <|
  rec1 (w64 (t20 + (1 : Int)), (b41 ++ ([(x6, x61)] : List (Int × Int))))) (
  rec1 (w64 (t20 + (1 : Int)), b41))) (
  K_1 b41)
def plan_Holes (N : Nat) (Z12 : List (List Int)) (Zy : List (ByteArray × Int × Int × Int × Int × Int × Int)) (Z11 : List (Int × Int)) (Zz : Int) (Z13 : Int) (Z10 : Int) : Option ((List (Int × Int)) × Int) :=
  bnd (plan_planErr N Z12 Zy Z11 Zz Z13 Z10) fun x1 =>
  br ((x1 != (0 : Int))) (
  some (([] : List (Int × Int)), x1)) (
  chk (0 ≤ (0 : Int) ∧ (0 : Int) < (Z12.length : Int)) <|
  jn (τ := (List (List (Int × Bool)))) (fun (b3 : (List (List (Int × Bool)))) =>
    jn (τ := (List (Int × Int))) (fun (b4 : (List (Int × Int))) =>
      some (b4, (0 : Int))) fun K_1 =>
    bnd (plan_field_points N Z12 Zy Z11 Zz Z13 Z10 ((Z12.getD 0 default).length : Int) b3) fun x3 =>
    rds (plan_Holes.b2 N Z12 Zy Z11 Zz Z13 Z10 b3 K_1 x3) N ((0 : Int), ([] : List (Int × Int)))) fun K_ =>
  rds (plan_Holes.b1 N Z12 Zy Z11 Zz Z13 Z10 K_) N ((0 : Int), ([] : List (List (Int × Bool)))))

def law09_subset.b2 (N : Nat) (a : List (Int × Int)) (b : List (Int × Int)) (i : Int) (K_2 : Bool → Option Bool) (rec1 : Bool × Int → Option Bool) : Bool × Int → Option Bool := fun (has1, k) =>
  br (decide (k < (b.length : Int))) (
  chk ((!has1) = true → 0 ≤ i ∧ i < (a.length : Int)) <|
  chk ((!has1) = true → 0 ≤ k ∧ k < (b.length : Int)) <|
  rec1 ((has1 || (((a.getD i.toNat default).1 == (b.getD k.toNat default).1) && ((a.getD i.toNat default).2 == (b.getD k.toNat default).2))), w64 (k + (1 : Int)))) (
  K_2 has1)
def law09_subset.b1 (N : Nat) (a : List (Int × Int)) (b : List (Int × Int)) (K_ : Unit → Option Bool) (rec : Int → Option Bool) : Int → Option Bool := fun i =>
  br (decide (i < (a.length : Int))) (
  jn (τ := Unit) (fun (_ : Unit) =>
    rec (w64 (i + (1 : Int)))) fun K_1 =>
  jn (τ := Bool) (fun (has : Bool) =>
    br (!has) (
    some false) (
    K_1 ())) fun K_2 =>
  rds (law09_subset.b2 N a b i K_2) N (false, (0 : Int))) (
  K_ ())
def law09_subset (N : Nat) (a : List (Int × Int)) (b : List (Int × Int)) : Option Bool :=
  jn (τ := Unit) (fun (_ : Unit) =>
    some true) fun K_ =>
  rds (law09_subset.b1 N a b K_) N (0 : Int)

def law09_PlanMore (N : Nat) (Z12 : List (List Int)) (Zy : List (ByteArray × Int × Int × Int × Int × Int × Int)) (Z11 : List (Int × Int)) (Zz : Int) (Z13 : Int) (Z10 : Int) (Ze : ByteArray) (Zc : Int) (Za : Int) (Zb : Int) (Zd : Int) (Zf : Int) (Zg : Int) (n_0 : Int) (n_1 : Int) (n_2 : Int) : Option Bool :=
  bnd (law09_awake N ) fun x1 =>
  br (!x1) (
  some false) (
  bnd (law09_Few N Z12 Zy Z11 Zz Z13 Z10) fun x2 =>
  bnd (grd (!(((!x2) || (decide ((Zy.length : Int) > (2 : Int)))) || (decide ((Ze.size : Int) > (20 : Int))))) 0 (ref09_PlanErr N Z12 Zy Z11 Zz Z13 Z10)) fun x3 =>
  br (((((!x2) || (decide ((Zy.length : Int) > (2 : Int)))) || (decide ((Ze.size : Int) > (20 : Int)))) || (x3 != (0 : Int)))) (
  some true) (
  bnd (ref09_CopyRaster N Z12) fun x4 =>
  chk (Zy.length ≤ 1000000000) <|
  chk (Z11.length ≤ 1000000000) <|
  bnd (plan_Holes N x4 Zy Z11 Zz Z13 Z10) fun (x5, x51) =>
  br ((x51 != (0 : Int))) (
  some false) (
  jn (τ := Unit) (fun (_ : Unit) =>
    jn (τ := Unit) (fun (_ : Unit) =>
      bnd (ref09_CopyRaster N Z12) fun x15 =>
      chk (Zy.length ≤ 1000000000) <|
      chk (Z11.length ≤ 1000000000) <|
      chk (Zy.length + ([(Ze, Zc, Za, Zb, Zd, Zf, Zg)] : List (ByteArray × Int × Int × Int × Int × Int × Int)).length ≤ 1000000000) <|
      bnd (ref09_PlanErr N x15 (Zy ++ ([(Ze, Zc, Za, Zb, Zd, Zf, Zg)] : List (ByteArray × Int × Int × Int × Int × Int × Int))) Z11 Zz Z13 Z10) fun x16 =>
      br ((x16 != (0 : Int))) (
      some true) (
      bnd (plan_Holes N x15 (Zy ++ ([(Ze, Zc, Za, Zb, Zd, Zf, Zg)] : List (ByteArray × Int × Int × Int × Int × Int × Int))) Z11 Zz Z13 Z10) fun (x17, x171) =>
      bnd (grd (x171 == (0 : Int)) false (law09_subset N x17 x5)) fun x18 =>
      some ((x171 == (0 : Int)) && x18))) fun K_1 =>
    bnd (base_Within N n_2 (-2000 : Int) Z10) fun x11 =>
    br (x11) (
    bnd (ref09_CopyRaster N Z12) fun x12 =>
    chk (Zy.length ≤ 1000000000) <|
    chk (Z11.length ≤ 1000000000) <|
    bnd (plan_Holes N x12 Zy Z11 Zz Z13 n_2) fun (x13, x131) =>
    bnd (grd (!(x131 != (0 : Int))) false (law09_subset N x13 x5)) fun x14 =>
    br (((x131 != (0 : Int)) || (!x14))) (
    some false) (
    K_1 ())) (
    K_1 ())) fun K_ =>
  bnd (base_Within N n_0 (0 : Int) (w64 ((Zy.length : Int) - (1 : Int)))) fun x6 =>
  chk (x6 = true → 0 ≤ n_0 ∧ n_0 < (Zy.length : Int)) <|
  bnd (grd x6 false (base_Within N n_1 ((Zy.getD n_0.toNat default).2.2.2.2.2.1) (1000 : Int))) fun x7 =>
  br ((x6 && x7)) (
  bnd (ref09_CopyRaster N Z12) fun x8 =>
  chk (Zy.length ≤ 1000000000) <|
  chk (Z11.length ≤ 1000000000) <|
  chk (0 ≤ n_0 ∧ n_0 < (Zy.length : Int)) <|
  bnd (plan_Holes N x8 (Zy.set n_0.toNat ((Zy.getD n_0.toNat default).1, (Zy.getD n_0.toNat default).2.1, (Zy.getD n_0.toNat default).2.2.1, (Zy.getD n_0.toNat default).2.2.2.1, (Zy.getD n_0.toNat default).2.2.2.2.1, n_1, (Zy.getD n_0.toNat default).2.2.2.2.2.2)) Z11 Zz Z13 Z10) fun (x9, x91) =>
  bnd (grd (!(x91 != (0 : Int))) false (law09_subset N x9 x5)) fun x10 =>
  br (((x91 != (0 : Int)) || (!x10))) (
  some false) (
  K_ ())) (
  K_ ()))))

end
end Go.Sh
