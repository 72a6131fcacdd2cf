import Derived.Test.YtklejiafioalnaaNsH
set_option linter.all false
namespace Go.Sh
open Go.PW
noncomputable section
def law09_raster.b1 (N : Nat) (r_Rows : List (List Int)) (K_ : Unit → Option Bool) (rec : Int → Option Bool) : Int → Option Bool := fun i =>
  br (decide (i < (r_Rows.length : Int))) (
  chk (0 ≤ i ∧ i < (r_Rows.length : Int)) <|
  chk ((decide (((r_Rows.getD i.toNat default).length : Int) > (5 : Int))) = true → 0 ≤ i ∧ i < (r_Rows.length : Int)) <|
  chk ((!((decide (((r_Rows.getD i.toNat default).length : Int) > (5 : Int))) && (decide (((r_Rows.getD i.toNat default).length : Int) ≤ (12 : Int))))) = true → 0 ≤ i ∧ i < (r_Rows.length : Int)) <|
  br ((((decide (((r_Rows.getD i.toNat default).length : Int) > (5 : Int))) && (decide (((r_Rows.getD i.toNat default).length : Int) ≤ (12 : Int)))) || (decide (((r_Rows.getD i.toNat default).length : Int) > (14 : Int))))) (
  some false) (
  rec (w64 (i + (1 : Int))))) (
  K_ ())
def law09_raster (N : Nat) (r_Rows : List (List Int)) : Option Bool :=
  br ((((decide ((r_Rows.length : Int) > (5 : Int))) && (decide ((r_Rows.length : Int) ≤ (12 : Int)))) || (decide ((r_Rows.length : Int) > (14 : Int))))) (
  some false) (
  jn (τ := Unit) (fun (_ : Unit) =>
    some true) fun K_ =>
  rds (law09_raster.b1 N r_Rows K_) N (0 : Int))

def base_CopyInts (N : Nat) (l : List Int) : Option (List Int) :=
  chk (([] : List Int).length + l.length ≤ 1000000000) <|
  some (([] : List Int) ++ l)

def base_CopyLists.b1 (N : Nat) (l : List (List Int)) (K_ : List (List Int) → Option (List (List Int))) (rec : Int × List (List Int) → Option (List (List Int))) : Int × List (List Int) → Option (List (List Int)) := fun (i, b01) =>
  br (decide (i < (l.length : Int))) (
  chk (0 ≤ i ∧ i < (l.length : Int)) <|
  bnd (base_CopyInts N (l.getD i.toNat default)) fun x1 =>
  chk (b01.length + ([x1] : List (List Int)).length ≤ 1000000000) <|
  rec (w64 (i + (1 : Int)), (b01 ++ ([x1] : List (List Int))))) (
  K_ b01)
def base_CopyLists (N : Nat) (l : List (List Int)) : Option (List (List Int)) :=
  jn (τ := List (List Int)) (fun (b0 : List (List Int)) =>
    some b0) fun K_ =>
  rds (base_CopyLists.b1 N l K_) N ((0 : Int), ([] : List (List Int)))

def ref09_CopyRaster (N : Nat) (r_Rows : List (List Int)) : Option (List (List Int)) :=
  bnd (base_CopyLists N r_Rows) fun x1 =>
  some x1

def plan_unless (N : Nat) (ok : Bool) (e : Int) : Option Int :=
  br (ok) (
  some (0 : Int)) (
  some e)

def plan_first.b1 (N : Nat) (l : List Int) (K_ : Unit → Option Int) (rec : Int → Option Int) : Int → Option Int := fun t7 =>
  br (decide (t7 < (l.length : Int))) (
  chk (0 ≤ t7 ∧ t7 < (l.length : Int)) <|
  br (((l.getD t7.toNat 0) != (0 : Int))) (
  some (l.getD t7.toNat 0)) (
  rec (w64 (t7 + (1 : Int))))) (
  K_ ())
def plan_first (N : Nat) (l : List Int) : Option Int :=
  jn (τ := Unit) (fun (_ : Unit) =>
    some (0 : Int)) fun K_ =>
  rds (plan_first.b1 N l K_) N (0 : Int)

def slices_IndexFunc_ii.b1 (N : Nat) (s : List Int) (f : Int → Option Bool) (K_ : Unit → Option Int) (rec : Int → Option Int) : Int → Option Int := fun t8 =>
  br (decide (t8 < (s.length : Int))) (
  chk (0 ≤ t8 ∧ t8 < (s.length : Int)) <|
  bnd (f (s.getD t8.toNat 0)) fun x1 =>
  br (x1) (
  some t8) (
  rec (w64 (t8 + (1 : Int))))) (
  K_ ())
def slices_IndexFunc_ii (N : Nat) (s : List Int) (f : Int → Option Bool) : Option Int :=
  jn (τ := Unit) (fun (_ : Unit) =>
    some (-1 : Int)) fun K_ =>
  rds (slices_IndexFunc_ii.b1 N s f K_) N (0 : Int)

def plan_within (N : Nat) (n : Int) (lo : Int) (hi : Int) : Option Bool :=
  some ((decide (lo ≤ n)) && (decide (n ≤ hi)))

def plan_CheckRaster_1 (N : Nat) (n : Int) : Option Bool :=
  bnd (plan_within N n (0 : Int) (5000 : Int)) fun x1 =>
  some (!x1)

def plan_CheckRaster.b1 (N : Nat) (r_Rows : List (List Int)) (K_ : Unit → Option (Int × Int × Int)) (rec : Int → Option (Int × Int × Int)) : Int → Option (Int × Int × Int) := fun t28 =>
  br (decide (t28 < (r_Rows.length : Int))) (
  chk (0 ≤ t28 ∧ t28 < (r_Rows.length : Int)) <|
  chk ((decide (((r_Rows.getD t28.toNat default).length : Int) > (0 : Int))) = true → 0 ≤ (0 : Int) ∧ (0 : Int) < (r_Rows.length : Int)) <|
  bnd (plan_unless N ((decide (((r_Rows.getD t28.toNat default).length : Int) > (0 : Int))) && (((r_Rows.getD t28.toNat default).length : Int) == ((r_Rows.getD 0 default).length : Int))) (10 : Int)) fun x4 =>
  bnd (plan_unless N (decide (((r_Rows.getD t28.toNat default).length : Int) ≤ (12 : Int))) (8 : Int)) fun x5 =>
  bnd (plan_first N ([x4, x5] : List Int)) fun x6 =>
  br ((x6 != (0 : Int))) (
  some (t28, (0 : Int), x6)) (
  bnd (slices_IndexFunc_ii N (r_Rows.getD t28.toNat default) (fun y0 => plan_CheckRaster_1 N y0)) fun x7 =>
  br (decide (x7 ≥ (0 : Int))) (
  some (t28, x7, (2 : Int))) (
  rec (w64 (t28 + (1 : Int)))))) (
  K_ ())
def plan_CheckRaster (N : Nat) (r_Rows : List (List Int)) : Option (Int × Int × Int) :=
  bnd (plan_unless N (decide ((r_Rows.length : Int) > (0 : Int))) (10 : Int)) fun x1 =>
  bnd (plan_unless N (decide ((r_Rows.length : Int) ≤ (12 : Int))) (8 : Int)) fun x2 =>
  bnd (plan_first N ([x1, x2] : List Int)) fun x3 =>
  br ((x3 != (0 : Int))) (
  some ((0 : Int), (0 : Int), x3)) (
  jn (τ := Unit) (fun (_ : Unit) =>
    some ((0 : Int), (0 : Int), (0 : Int))) fun K_ =>
  rds (plan_CheckRaster.b1 N r_Rows K_) N (0 : Int))

def plan_rasterErr (N : Nat) (r_Rows : List (List Int)) : Option Int :=
  bnd (plan_CheckRaster N r_Rows) fun (x1, x11, x12) =>
  some x12

def plan_isName.b1 (N : Nat) (s : ByteArray) (K_ : Unit → Option Bool) (rec : Int → Option Bool) : Int → Option Bool := fun t9 =>
  br (decide (t9 < ((bytesL s).length : Int))) (
  chk (0 ≤ t9 ∧ t9 < ((bytesL s).length : Int)) <|
  br (((!(((decide (((bytesL s).getD t9.toNat 0) ≥ (97 : Int))) && (decide (((bytesL s).getD t9.toNat 0) ≤ (122 : Int)))) || ((decide (((bytesL s).getD t9.toNat 0) ≥ (65 : Int))) && (decide (((bytesL s).getD t9.toNat 0) ≤ (90 : Int)))))) && ((t9 == (0 : Int)) || ((((bytesL s).getD t9.toNat 0) != (45 : Int)) && ((decide (((bytesL s).getD t9.toNat 0) < (48 : Int))) || (decide (((bytesL s).getD t9.toNat 0) > (57 : Int)))))))) (
  some false) (
  rec (w64 (t9 + (1 : Int))))) (
  K_ ())
def plan_isName (N : Nat) (s : ByteArray) : Option Bool :=
  jn (τ := Unit) (fun (_ : Unit) =>
    some ((!(s.toList == (⟨#[]⟩ : ByteArray).toList)) && (decide ((s.size : Int) ≤ (12 : Int))))) fun K_ =>
  rds (plan_isName.b1 N s K_) N (0 : Int)

def plan_isIdentity (N : Nat) (n : Int) : Option Bool :=
  bnd (plan_within N n (0 : Int) (1007 : Int)) fun x1 =>
  some x1

def plan_ownErr (N : Nat) (c_Name : ByteArray) (c_Identity : Int) (c_At_0 : Int) (c_At_1 : Int) (c_Mast : Int) (c_Power : Int) (c_Tilt : Int) : Option Int :=
  bnd (plan_isName N c_Name) fun x1 =>
  bnd (plan_unless N x1 (4 : Int)) fun x2 =>
  bnd (plan_isIdentity N c_Identity) fun x3 =>
  bnd (plan_unless N x3 (2 : Int)) fun x4 =>
  bnd (plan_first N ([x2, x4] : List Int)) fun x5 =>
  some x5

def plan_pointErr (N : Nat) (r_Rows : List (List Int)) (at_0 : Int) (at_1 : Int) : Option Int :=
  bnd (plan_within N at_0 (0 : Int) (w64 ((r_Rows.length : Int) - (1 : Int)))) fun x1 =>
  chk (x1 = true → 0 ≤ (0 : Int) ∧ (0 : Int) < (r_Rows.length : Int)) <|
  bnd (grd x1 false (plan_within N at_1 (0 : Int) (w64 (((r_Rows.getD 0 default).length : Int) - (1 : Int))))) fun x2 =>
  bnd (plan_unless N (x1 && x2) (6 : Int)) fun x3 =>
  some x3

def plan_isLevel (N : Nat) (n : Int) : Option Bool :=
  bnd (plan_within N n (-2000 : Int) (1000 : Int)) fun x1 =>
  some x1

def plan_numbersErr (N : Nat) (c_Name : ByteArray) (c_Identity : Int) (c_At_0 : Int) (c_At_1 : Int) (c_Mast : Int) (c_Power : Int) (c_Tilt : Int) : Option Int :=
  bnd (plan_within N c_Mast (1 : Int) (200 : Int)) fun x1 =>
  bnd (grd x1 false (plan_isLevel N c_Power)) fun x2 =>
  bnd (grd (x1 && x2) false (plan_within N c_Tilt (0 : Int) (11 : Int))) fun x3 =>
  bnd (plan_unless N ((x1 && x2) && x3) (2 : Int)) fun x4 =>
  some x4

def plan_CheckCell (N : Nat) (r_Rows : List (List Int)) (c_Name : ByteArray) (c_Identity : Int) (c_At_0 : Int) (c_At_1 : Int) (c_Mast : Int) (c_Power : Int) (c_Tilt : Int) : Option Int :=
  bnd (plan_rasterErr N r_Rows) fun x1 =>
  bnd (plan_ownErr N c_Name c_Identity c_At_0 c_At_1 c_Mast c_Power c_Tilt) fun x2 =>
  bnd (plan_pointErr N r_Rows c_At_0 c_At_1) fun x3 =>
  bnd (plan_numbersErr N c_Name c_Identity c_At_0 c_At_1 c_Mast c_Power c_Tilt) fun x4 =>
  bnd (plan_first N ([x1, x2, x3, x4] : List Int)) fun x5 =>
  some x5

def base_Within (N : Nat) (n : Int) (lo : Int) (hi : Int) : Option Bool :=
  some ((decide (lo ≤ n)) && (decide (n ≤ hi)))

def ref09_CheckRaster.b2 (N : Nat) (r_Rows : List (List Int)) (i : Int) (K_1 : Unit → Option (Int × Int × Int)) (rec1 : Int → Option (Int × Int × Int)) : Int → Option (Int × Int × Int) := fun k =>
  chk (0 ≤ i ∧ i < (r_Rows.length : Int)) <|
  br (decide (k < ((r_Rows.getD i.toNat default).length : Int))) (
  chk (0 ≤ i ∧ i < (r_Rows.length : Int)) <|
  chk (0 ≤ k ∧ k < ((r_Rows.getD i.toNat default).length : Int)) <|
  bnd (base_Within N ((r_Rows.getD i.toNat default).getD k.toNat 0) (0 : Int) (5000 : Int)) fun x1 =>
  br (!x1) (
  some (i, k, (2 : Int))) (
  rec1 (w64 (k + (1 : Int))))) (
  K_1 ())
def ref09_CheckRaster.b1 (N : Nat) (r_Rows : List (List Int)) (K_ : Unit → Option (Int × Int × Int)) (rec : Int → Option (Int × Int × Int)) : Int → Option (Int × Int × Int) := fun i =>
  br (decide (i < (r_Rows.length : Int))) (
  jn (τ := Unit) (fun (_ : Unit) =>
    rec (w64 (i + (1 : Int)))) fun K_1 =>
  chk (0 ≤ i ∧ i < (r_Rows.length : Int)) <|
  chk ((!(((r_Rows.getD i.toNat default).length : Int) == (0 : Int))) = true → 0 ≤ i ∧ i < (r_Rows.length : Int)) <|
  chk ((!(((r_Rows.getD i.toNat default).length : Int) == (0 : Int))) = true → 0 ≤ (0 : Int) ∧ (0 : Int) < (r_Rows.length : Int)) <|
  br (((((r_Rows.getD i.toNat default).length : Int) == (0 : Int)) || (((r_Rows.getD i.toNat default).length : Int) != ((r_Rows.getD 0 default).length : Int)))) (
  some (i, (0 : Int), (10 : Int))) (
  chk (0 ≤ i ∧ i < (r_Rows.length : Int)) <|
  br (decide (((r_Rows.getD i.toNat default).length : Int) > (12 : Int))) (
  some (i, (0 : Int), (8 : Int))) (
  rds (ref09_CheckRaster.b2 N r_Rows i K_1) N (0 : Int)))) (
  K_ ())
def ref09_CheckRaster (N : Nat) (r_Rows : List (List Int)) : Option (Int × Int × Int) :=
  br (((r_Rows.length : Int) == (0 : Int))) (
  some ((0 : Int), (0 : Int), (10 : Int))) (
  br (decide ((r_Rows.length : Int) > (12 : Int))) (
  some ((0 : Int), (0 : Int), (8 : Int))) (
  jn (τ := Unit) (fun (_ : Unit) =>
    some ((0 : Int), (0 : Int), (0 : Int))) fun K_ =>
  rds (ref09_CheckRaster.b1 N r_Rows K_) N (0 : Int)))

def ref09_RasterErr (N : Nat) (r_Rows : List (List Int)) : Option Int :=
  bnd (ref09_CheckRaster N r_Rows) fun (x1, x11, x12) =>
  some x12

def base_IsName.b1 (N : Nat) (s : ByteArray) (K_ : Unit → Option Bool) (rec : Int → Option Bool) : Int → Option Bool := fun i =>
  br (decide (i < (s.size : Int))) (
  chk (0 ≤ i ∧ i < (s.size : Int)) <|
  br (((!(((decide ((s.data.getD i.toNat 0).toNat ≥ (97 : Int))) && (decide ((s.data.getD i.toNat 0).toNat ≤ (122 : Int)))) || ((decide ((s.data.getD i.toNat 0).toNat ≥ (65 : Int))) && (decide ((s.data.getD i.toNat 0).toNat ≤ (90 : Int)))))) && ((i == (0 : Int)) || (((s.data.getD i.toNat 0).toNat != (45 : Int)) && ((decide ((s.data.getD i.toNat 0).toNat < (48 : Int))) || (decide ((s.data.getD i.toNat 0).toNat > (57 : Int)))))))) (
  some false) (
  rec (w64 (i + (1 : Int))))) (
  K_ ())
def base_IsName (N : Nat) (s : ByteArray) : Option Bool :=
  br (((decide ((s.size : Int) < (1 : Int))) || (decide ((s.size : Int) > (12 : Int))))) (
  some false) (
  jn (τ := Unit) (fun (_ : Unit) =>
    some true) fun K_ =>
  rds (base_IsName.b1 N s K_) N (0 : Int))

def ref09_IdentityErr (N : Nat) (n : Int) : Option Int :=
  bnd (base_Within N n (0 : Int) (1007 : Int)) fun x1 =>
  br (!x1) (
  some (2 : Int)) (
  some (0 : Int))

def ref09_ItselfErr (N : Nat) (c_Name : ByteArray) (c_Identity : Int) (c_At_0 : Int) (c_At_1 : Int) (c_Mast : Int) (c_Power : Int) (c_Tilt : Int) : Option Int :=
  bnd (base_IsName N c_Name) fun x1 =>
  br (!x1) (
  some (4 : Int)) (
  bnd (ref09_IdentityErr N c_Identity) fun x2 =>
  some x2)

def ref09_PointErr (N : Nat) (r_Rows : List (List Int)) (at_0 : Int) (at_1 : Int) : Option Int :=
  bnd (base_Within N at_0 (0 : Int) (w64 ((r_Rows.length : Int) - (1 : Int)))) fun x1 =>
  chk (x1 = true → 0 ≤ (0 : Int) ∧ (0 : Int) < (r_Rows.length : Int)) <|
  bnd (grd x1 false (base_Within N at_1 (0 : Int) (w64 (((r_Rows.getD 0 default).length : Int) - (1 : Int))))) fun x2 =>
  br (((!x1) || (!x2))) (
  some (6 : Int)) (
  some (0 : Int))

def ref09_isTilt (N : Nat) (n : Int) : Option Bool :=
  bnd (base_Within N n (0 : Int) (11 : Int)) fun x1 =>
  some x1

def ref09_NumbersErr (N : Nat) (c_Name : ByteArray) (c_Identity : Int) (c_At_0 : Int) (c_At_1 : Int) (c_Mast : Int) (c_Power : Int) (c_Tilt : Int) : Option Int :=
  bnd (base_Within N c_Mast (1 : Int) (200 : Int)) fun x1 =>
  bnd (grd x1 false (base_Within N c_Power (-2000 : Int) (1000 : Int))) fun x2 =>
  bnd (grd (!((!x1) || (!x2))) false (ref09_isTilt N c_Tilt)) fun x3 =>
  br ((((!x1) || (!x2)) || (!x3))) (
  some (2 : Int)) (
  some (0 : Int))

def ref09_CellErr (N : Nat) (r_Rows : List (List Int)) (c_Name : ByteArray) (c_Identity : Int) (c_At_0 : Int) (c_At_1 : Int) (c_Mast : Int) (c_Power : Int) (c_Tilt : Int) : Option Int :=
  bnd (ref09_RasterErr N r_Rows) fun x1 =>
  br ((x1 != (0 : Int))) (
  some x1) (
  bnd (ref09_ItselfErr N c_Name c_Identity c_At_0 c_At_1 c_Mast c_Power c_Tilt) fun x2 =>
  br ((x2 != (0 : Int))) (
  some x2) (
  bnd (ref09_PointErr N r_Rows c_At_0 c_At_1) fun x3 =>
  br ((x3 != (0 : Int))) (
  some x3) (
  bnd (ref09_NumbersErr N c_Name c_Identity c_At_0 c_At_1 c_Mast c_Power c_Tilt) fun x4 =>
  some x4)))

def plan_sees_1 (N : Nat) (p_0 : Int) (p_1 : Int) (a1_Rows : List (List Int)) : Option Int :=
  chk (0 ≤ p_0 ∧ p_0 < (a1_Rows.length : Int)) <|
  chk (0 ≤ p_1 ∧ p_1 < ((a1_Rows.getD p_0.toNat default).length : Int)) <|
  some ((a1_Rows.getD p_0.toNat default).getD p_1.toNat 0)

def plan_size (N : Nat) (n : Int) : Option Int :=
  some (if n < w64 (0 - n) then w64 (0 - n) else n)

def plan_steps (N : Nat) (a_0 : Int) (a_1 : Int) (b_0 : Int) (b_1 : Int) : Option Int :=
  bnd (plan_size N (w64 (a_0 - b_0))) fun x1 =>
  bnd (plan_size N (w64 (a_1 - b_1))) fun x2 =>
  some (if x1 < x2 then x2 else x1)

def plan_nearest (N : Nat) (n : Int) (by_ : Int) : Option Int :=
  chk (w64 ((2 : Int) * by_) ≠ 0) <|
  chk (w64 ((2 : Int) * by_) ≠ 0) <|
  br (decide ((w64 ((w64 ((2 : Int) * n)) + by_)).tmod (w64 ((2 : Int) * by_)) < (0 : Int))) (
  some (w64 ((w64 ((w64 ((w64 ((2 : Int) * n)) + by_)).tdiv (w64 ((2 : Int) * by_)))) - (1 : Int)))) (
  some (w64 ((w64 ((w64 ((2 : Int) * n)) + by_)).tdiv (w64 ((2 : Int) * by_)))))

def plan_sees.b1 (N : Nat) (r_Rows : List (List Int)) (c_At_0 : Int) (c_At_1 : Int) (c_Mast : Int) (at_0 : Int) (at_1 : Int) (x1 : Int) (x2 : Int) (x3 : Int) (K_ : Unit → Option Bool) (rec : Int → Option Bool) : Int → Option Bool := fun k =>
  br (decide (k < x1)) (
  jn (τ := Unit) (fun (_ : Unit) =>
    rec (w64 (k + (1 : Int)))) fun K_1 =>
  jn (τ := Int × Int) (fun (b3, b31) =>
    bnd (plan_sees_1 N b3 b31 r_Rows) fun x6 =>
    br (decide (w64 (x1 * x6) > w64 ((w64 ((w64 (x1 - k)) * (w64 (x2 + c_Mast)))) + (w64 (k * (w64 (x3 + (2 : Int)))))))) (
    some false) (
    K_1 ())) fun K_2 =>
  bnd (plan_nearest N (w64 (k * (w64 (at_0 - c_At_0)))) x1) fun x4 =>
  bnd (plan_nearest N (w64 (k * (w64 (at_1 - c_At_1)))) x1) fun x5 =>
  K_2 (w64 (c_At_0 + x4), w64 (c_At_1 + x5))) (
  K_ ())
def plan_sees (N : Nat) (r_Rows : List (List Int)) (c_Name : ByteArray) (c_Identity : Int) (c_At_0 : Int) (c_At_1 : Int) (c_Mast : Int) (c_Power : Int) (c_Tilt : Int) (at_0 : Int) (at_1 : Int) : Option Bool :=
  bnd (plan_steps N c_At_0 c_At_1 at_0 at_1) fun x1 =>
  bnd (plan_sees_1 N c_At_0 c_At_1 r_Rows) fun x2 =>
  bnd (plan_sees_1 N at_0 at_1 r_Rows) fun x3 =>
  jn (τ := Unit) (fun (_ : Unit) =>
    some true) fun K_ =>
  rds (plan_sees.b1 N r_Rows c_At_0 c_At_1 c_Mast at_0 at_1 x1 x2 x3 K_) N (1 : Int)

def plan_Sees (N : Nat) (r_Rows : List (List Int)) (c_Name : ByteArray) (c_Identity : Int) (c_At_0 : Int) (c_At_1 : Int) (c_Mast : Int) (c_Power : Int) (c_Tilt : Int) (at_0 : Int) (at_1 : Int) : Option (Bool × Int) :=
  bnd (plan_CheckCell N r_Rows c_Name c_Identity c_At_0 c_At_1 c_Mast c_Power c_Tilt) fun x1 =>
  bnd (plan_pointErr N r_Rows at_0 at_1) fun x2 =>
  bnd (plan_first N ([x1, x2] : List Int)) fun x3 =>
  br ((x3 != (0 : Int))) (
  some (false, x3)) (
  bnd (plan_sees N r_Rows c_Name c_Identity c_At_0 c_At_1 c_Mast c_Power c_Tilt at_0 at_1) fun x4 =>
  some (x4, (0 : Int)))

def base_Size (N : Nat) (n : Int) : Option Int :=
  some (if n < w64 (0 - n) then w64 (0 - n) else n)

def ref09_Steps (N : Nat) (a_0 : Int) (a_1 : Int) (b_0 : Int) (b_1 : Int) : Option Int :=
  bnd (base_Size N (w64 (a_0 - b_0))) fun x1 =>
  bnd (base_Size N (w64 (a_1 - b_1))) fun x2 =>
  some (if x1 < x2 then x2 else x1)

def base_Floor (N : Nat) (n : Int) (by_ : Int) : Option Int :=
  chk (by_ ≠ 0) <|
  chk (by_ ≠ 0) <|
  br (decide (n.tmod by_ < (0 : Int))) (
  some (w64 ((w64 (n.tdiv by_)) - (1 : Int)))) (
  some (w64 (n.tdiv by_)))

def ref09_Sees.b1 (N : Nat) (r_Rows : List (List Int)) (c_At_0 : Int) (c_At_1 : Int) (c_Mast : Int) (at_0 : Int) (at_1 : Int) (x1 : Int) (K_ : Unit → Option Bool) (rec : Int → Option Bool) : Int → Option Bool := fun k =>
  br (decide (k < x1)) (
  bnd (base_Floor N (w64 ((w64 ((w64 ((2 : Int) * (w64 (at_0 - c_At_0)))) * k)) + x1)) (w64 ((2 : Int) * x1))) fun x2 =>
  bnd (base_Floor N (w64 ((w64 ((w64 ((2 : Int) * (w64 (at_1 - c_At_1)))) * k)) + x1)) (w64 ((2 : Int) * x1))) fun x3 =>
  chk (0 ≤ w64 (c_At_0 + x2) ∧ w64 (c_At_0 + x2) < (r_Rows.length : Int)) <|
  chk (0 ≤ w64 (c_At_1 + x3) ∧ w64 (c_At_1 + x3) < ((r_Rows.getD ((w64 (c_At_0 + x2)).toNat) default).length : Int)) <|
  br (decide (w64 (x1 * ((r_Rows.getD ((w64 (c_At_0 + x2)).toNat) default).getD ((w64 (c_At_1 + x3)).toNat) 0)) > w64 ((w64 ((w64 (x1 - k)) * (w64 (((r_Rows.getD c_At_0.toNat default).getD c_At_1.toNat 0) + c_Mast)))) + (w64 (k * (w64 (((r_Rows.getD at_0.toNat default).getD at_1.toNat 0) + (2 : Int)))))))) (
  some false) (
  rec (w64 (k + (1 : Int))))) (
  K_ ())
def ref09_Sees (N : Nat) (r_Rows : List (List Int)) (c_Name : ByteArray) (c_Identity : Int) (c_At_0 : Int) (c_At_1 : Int) (c_Mast : Int) (c_Power : Int) (c_Tilt : Int) (at_0 : Int) (at_1 : Int) : Option Bool :=
  bnd (ref09_Steps N c_At_0 c_At_1 at_0 at_1) fun x1 =>
  chk (0 ≤ c_At_0 ∧ c_At_0 < (r_Rows.length : Int)) <|
  chk (0 ≤ c_At_1 ∧ c_At_1 < ((r_Rows.getD c_At_0.toNat default).length : Int)) <|
  chk (0 ≤ at_0 ∧ at_0 < (r_Rows.length : Int)) <|
  chk (0 ≤ at_1 ∧ at_1 < ((r_Rows.getD at_0.toNat default).length : Int)) <|
  jn (τ := Unit) (fun (_ : Unit) =>
    some true) fun K_ =>
  rds (ref09_Sees.b1 N r_Rows c_At_0 c_At_1 c_Mast at_0 at_1 x1 K_) N (1 : Int)

def law09_PlanSees (N : Nat) (r_Rows : List (List Int)) (c_Name : ByteArray) (c_Identity : Int) (c_At_0 : Int) (c_At_1 : Int) (c_Mast : Int) (c_Power : Int) (c_Tilt : Int) (at_0 : Int) (at_1 : Int) : Option Bool :=
  bnd (law09_awake N ) fun x1 =>
  br (!x1) (
  some false) (
  bnd (law09_raster N r_Rows) fun x2 =>
  br (((!x2) || (decide ((c_Name.size : Int) > (20 : Int))))) (
  some true) (
  bnd (ref09_CopyRaster N r_Rows) fun x3 =>
  bnd (plan_Sees N x3 c_Name c_Identity c_At_0 c_At_1 c_Mast c_Power c_Tilt at_0 at_1) fun (x4, x41) =>
  bnd (ref09_CellErr N r_Rows c_Name c_Identity c_At_0 c_At_1 c_Mast c_Power c_Tilt) fun x5 =>
  jn (τ := Int) (fun (d : Int) =>
    br ((d != (0 : Int))) (
    some ((x41 == d) && (!x4))) (
    bnd (grd (x41 == (0 : Int)) false (ref09_Sees N r_Rows c_Name c_Identity c_At_0 c_At_1 c_Mast c_Power c_Tilt at_0 at_1)) fun x7 =>
    some ((x41 == (0 : Int)) && (x4 == x7)))) fun K_ =>
  br ((x5 == (0 : Int))) (
  bnd (ref09_PointErr N r_Rows at_0 at_1) fun x6 =>
  K_ x6) (
  K_ x5)))
end
end Go.Sh
