import Derived.Test.YtklejiafioalnaaNsH
set_option linter.all false
namespace Go.Sh
open Go.PW
noncomputable section
def law09_raster.b1 (N : Nat) (Z7 : List (List Int)) (K_ : Unit → Option Bool) (rec : Int → Option Bool) : Int → Option Bool := fun i =>
  br (decide (i < (Z7.length : Int))) (
  chk (0 ≤ i ∧ i < (Z7.length : Int)) <|
  chk ((decide (((Z7.getD i.toNat default).length : Int) > (5 : Int))) = true → 0 ≤ i ∧ i < (Z7.length : Int)) <|
  chk ((!((decide (((Z7.getD i.toNat default).length : Int) > (5 : Int))) && (decide (((Z7.getD i.toNat default).length : Int) ≤ (12 : Int))))) = true → 0 ≤ i ∧ i < (Z7.length : Int)) <|
  br ((((decide (((Z7.getD i.toNat default).length : Int) > (5 : Int))) && (decide (((Z7.getD i.toNat default).length : Int) ≤ (12 : Int)))) || (decide (((Z7.getD i.toNat default).length : Int) > (14 : Int))))) (
  some false) (
  rec (w64 (i + (1 : Int))))) (
  K_ ())
def law09_raster (N : Nat) (Z7 : List (List Int)) : Option Bool :=
  br ((((decide ((Z7.length : Int) > (5 : Int))) && (decide ((Z7.length : Int) ≤ (12 : Int)))) || (decide ((Z7.length : Int) > (14 : Int))))) (
  some false) (
  jn (τ := Unit) (fun (_ : Unit) =>
    some true) fun K_ =>
  rds (law09_raster.b1 N Z7 K_) N (0 : Int))

def base_CopyInts (N : Nat) (l : List Int) : Option (List Int) :=
  chk (([] : List Int).length + l.length ≤ 1000000000) <|
  some (([] : List Int) ++ l)

def base_CopyLists.b1 (N : Nat) (l : List (List Int)) (K_ : List (List Int) → Option (List (List Int))) (rec : Int × List (List Int) → Option (List (List Int))) : Int × List (List Int) → Option (List (List Int)) := fun (i, b01) =>
  br (decide (i < (l.length : Int))) (
  chk (0 ≤ i ∧ i < (l.length : Int)) <|
  bnd (base_CopyInts N (l.getD i.toNat default)) fun x1 =>
  chk (b01.length + ([x1] : List (List Int)).length ≤ 1000000000) <|
  rec (w64 (i + (1 : Int)), (b01 ++ ([x1] : List (List Int))))) (
  K_ b01)
def base_CopyLists (N : Nat) (l : List (List Int)) : Option (List (List Int)) :=
  jn (τ := List (List Int)) (fun (b0 : List (List Int)) =>
    some b0) fun K_ =>
  rds (base_CopyLists.b1 N l K_) N ((0 : Int), ([] : List (List Int)))

def ref09_CopyRaster (N : Nat) (Z7 : List (List Int)) : Option (List (List Int)) :=
  bnd (base_CopyLists N Z7) fun x1 =>
  some x1

def plan_unless (N : Nat) (ok : Bool) (e : Int) : Option Int :=
  br (ok) (
  some (0 : Int)) (
  some e)

def plan_first.b1 (N : Nat) (l : List Int) (K_ : Unit → Option Int) (rec : Int → Option Int) : Int → Option Int := fun t7 =>
  br (decide (t7 < (l.length : Int))) (
  chk (0 ≤ t7 ∧ t7 < (l.length : Int)) <|
  br (((l.getD t7.toNat 0) != (0 : Int))) (
  some (l.getD t7.toNat 0)) (
  rec (w64 (t7 + (1 : Int))))) (
  K_ ())
def plan_first (N : Nat) (l : List Int) : Option Int :=
  jn (τ := Unit) (fun (_ : Unit) =>
    some (0 : Int)) fun K_ =>
  rds (plan_first.b1 N l K_) N (0 : Int)

def slices_IndexFunc_ii.b1 (N : Nat) (s : List Int) (f : Int → Option Bool) (K_ : Unit → Option Int) (rec : Int → Option Int) : Int → Option Int := fun t8 =>
  br (decide (t8 < (s.length : Int))) (
  chk (0 ≤ t8 ∧ t8 < (s.length : Int)) <|
  bnd (f (s.getD t8.toNat 0)) fun x1 =>
  br (x1) (
  some t8) (
  rec (w64 (t8 + (1 : Int))))) (
  K_ ())
def slices_IndexFunc_ii (N : Nat) (s : List Int) (f : Int → Option Bool) : Option Int :=
  jn (τ := Unit) (fun (_ : Unit) =>
    some (-1 : Int)) fun K_ =>
  rds (slices_IndexFunc_ii.b1 N s f K_) N (0 : Int)

def plan_within (N : Nat) (n : Int) (lo : Int) (hi : Int) : Option Bool :=
  some ((decide (lo ≤ n)) && (decide (n ≤ hi)))

def plan_CheckRaster_1 (N : Nat) (n : Int) : Option Bool :=
  bnd (plan_within N n (0 : Int) (5000 : Int)) fun x1 =>
  some (!x1)

def plan_CheckRaster.b1 (N : Nat) (Z7 : List (List Int)) (K_ : Unit → Option (Int × Int × Int)) (rec : Int → Option (Int × Int × Int)) : Int → Option (Int × Int × Int) := fun t28 =>
  br (decide (t28 < (Z7.length : Int))) (
  chk (0 ≤ t28 ∧ t28 < (Z7.length : Int)) <|
  chk ((decide (((Z7.getD t28.toNat default).length : Int) > (0 : Int))) = true → 0 ≤ (0 : Int) ∧ (0 : Int) < (Z7.length : Int)) <|
  bnd (plan_unless N ((decide (((Z7.getD t28.toNat default).length : Int) > (0 : Int))) && (((Z7.getD t28.toNat default).length : Int) == ((Z7.getD 0 default).length : Int))) (10 : Int)) fun x4 =>
  bnd (plan_unless N (decide (((Z7.getD t28.toNat default).length : Int) ≤ (12 : Int))) (8 : Int)) fun x5 =>
  bnd (plan_first N ([x4, x5] : List Int)) fun x6 =>
  br ((x6 != (0 : Int))) (
  some (t28, (0 : Int), x6)) (
  bnd (slices_IndexFunc_ii N (Z7.getD t28.toNat default) (fun y0 => plan_CheckRaster_1 N y0)) fun x7 =>
  br (decide (x7 ≥ (0 : Int))) (
  some (t28, x7, (2 : Int))) (
  rec (w64 (t28 + (1 : Int)))))) (
  K_ ())
def plan_CheckRaster (N : Nat) (Z7 : List (List Int)) : Option (Int × Int × Int) :=
  bnd (plan_unless N (decide ((Z7.length : Int) > (0 : Int))) (10 : Int)) fun x1 =>
  bnd (plan_unless N (decide ((Z7.length : Int) ≤ (12 : Int))) (8 : Int)) fun x2 =>
  bnd (plan_first N ([x1, x2] : List Int)) fun x3 =>
  br ((x3 != (0 : Int))) (
  some ((0 : Int), (0 : Int), x3)) (
  jn (τ := Unit) (fun (_ : Unit) =>
    some ((0 : Int), (0 : Int), (0 : Int))) fun K_ =>
  rds (plan_CheckRaster.b1 N Z7 K_) N (0 : Int))

def plan_rasterErr (N : Nat) (Z7 : List (List Int)) : Option Int :=
  bnd (plan_CheckRaster N Z7) fun (x1, x11, x12) =>
  some x12

def plan_isName.b1 (N : Nat) (s : ByteArray) (K_ : Unit → Option Bool) (rec : Int → Option Bool) : Int → Option Bool := fun t9 =>
  br (decide (t9 < ((bytesL s).length : Int))) (
  chk (0 ≤ t9 ∧ t9 < ((bytesL s).length : Int)) <|
  br (((!(((decide (((bytesL s).getD t9.toNat 0) ≥ (97 : Int))) && (decide (((bytesL s).getD t9.toNat 0) ≤ (122 : Int)))) || ((decide (((bytesL s).getD t9.toNat 0) ≥ (65 : Int))) && (decide (((bytesL s).getD t9.toNat 0) ≤ (90 : Int)))))) && ((t9 == (0 : Int)) || ((((bytesL s).getD t9.toNat 0) != (45 : Int)) && ((decide (((bytesL s).getD t9.toNat 0) < (48 : Int))) || (decide (((bytesL s).getD t9.toNat 0) > (57 : Int)))))))) (
  some false) (
  rec (w64 (t9 + (1 : Int))))) (
  K_ ())
def plan_isName (N : Nat) (s : ByteArray) : Option Bool :=
  jn (τ := Unit) (fun (_ : Unit) =>
    some ((!(s.toList == (⟨#[]⟩ : ByteArray).toList)) && (decide ((s.size : Int) ≤ (12 : Int))))) fun K_ =>
  rds (plan_isName.b1 N s K_) N (0 : Int)

def plan_isIdentity (N : Nat) (n : Int) : Option Bool :=
  bnd (plan_within N n (0 : Int) (1007 : Int)) fun x1 =>
  some x1

def plan_ownErr (N : Nat) (Z4 : ByteArray) (Z2 : Int) (Z0 : Int) (Z1 : Int) (Z3 : Int) (Z5 : Int) (Z6 : Int) : Option Int :=
  bnd (plan_isName N Z4) fun x1 =>
  bnd (plan_unless N x1 (4 : Int)) fun x2 =>
  bnd (plan_isIdentity N Z2) fun x3 =>
  bnd (plan_unless N x3 (2 : Int)) fun x4 =>
  bnd (plan_first N ([x2, x4] : List Int)) fun x5 =>
  some x5

def plan_pointErr (N : Nat) (Z7 : List (List Int)) (at_0 : Int) (at_1 : Int) : Option Int :=
  bnd (plan_within N at_0 (0 : Int) (w64 ((Z7.length : Int) - (1 : Int)))) fun x1 =>
  chk (x1 = true → 0 ≤ (0 : Int) ∧ (0 : Int) < (Z7.length : Int)) <|
  bnd (grd x1 false (plan_within N at_1 (0 : Int) (w64 (((Z7.getD 0 default).length : Int) - (1 : Int))))) fun x2 =>
  bnd (plan_unless N (x1 && x2) (6 : Int)) fun x3 =>
  some x3

def plan_isLevel (N : Nat) (n : Int) : Option Bool :=
  bnd (plan_within N n (-2000 : Int) (1000 : Int)) fun x1 =>
  some x1

def plan_numbersErr (N : Nat) (Z4 : ByteArray) (Z2 : Int) (Z0 : Int) (Z1 : Int) (Z3 : Int) (Z5 : Int) (Z6 : Int) : Option Int :=
  bnd (plan_within N Z3 (1 : Int) (200 : Int)) fun x1 =>
  bnd (grd x1 false (plan_isLevel N Z5)) fun x2 =>
  bnd (grd (x1 && x2) false (plan_within N Z6 (0 : Int) (11 : Int))) fun x3 =>
  bnd (plan_unless N ((x1 && x2) && x3) (2 : Int)) fun x4 =>
  some x4

def plan_CheckCell (N : Nat) (Z7 : List (List Int)) (Z4 : ByteArray) (Z2 : Int) (Z0 : Int) (Z1 : Int) (Z3 : Int) (Z5 : Int) (Z6 : Int) : Option Int :=
  bnd (plan_rasterErr N Z7) fun x1 =>
  bnd (plan_ownErr N Z4 Z2 Z0 Z1 Z3 Z5 Z6) fun x2 =>
  bnd (plan_pointErr N Z7 Z0 Z1) fun x3 =>
  bnd (plan_numbersErr N Z4 Z2 Z0 Z1 Z3 Z5 Z6) fun x4 =>
  bnd (plan_first N ([x1, x2, x3, x4] : List Int)) fun x5 =>
  some x5

def base_Within (N : Nat) (n : Int) (lo : Int) (hi : Int) : Option Bool :=
  some ((decide (lo ≤ n)) && (decide (n ≤ hi)))

def ref09_CheckRaster.b2 (N : Nat) (Z7 : List (List Int)) (i : Int) (K_1 : Unit → Option (Int × Int × Int)) (rec1 : Int → Option (Int × Int × Int)) : Int → Option (Int × Int × Int) := fun k =>
  chk (0 ≤ i ∧ i < (Z7.length : Int)) <|
  br (decide (k < ((Z7.getD i.toNat default).length : Int))) (
  chk (0 ≤ i ∧ i < (Z7.length : Int)) <|
  chk (0 ≤ k ∧ k < ((Z7.getD i.toNat default).length : Int)) <|
  bnd (base_Within N ((Z7.getD i.toNat default).getD k.toNat 0) (0 : Int) (5000 : Int)) fun x1 =>
  br (!x1) (
  some (i, k, (2 : Int))) (
  rec1 (w64 (k + (1 : Int))))) (
  K_1 ())
def ref09_CheckRaster.b1 (N : Nat) (Z7 : List (List Int)) (K_ : Unit → Option (Int × Int × Int)) (rec : Int → Option (Int × Int × Int)) : Int → Option (Int × Int × Int) := fun i =>
  br (decide (i < (Z7.length : Int))) (
  jn (τ := Unit) (fun (_ : Unit) =>
    rec (w64 (i + (1 : Int)))) fun K_1 =>
  chk (0 ≤ i ∧ i < (Z7.length : Int)) <|
  chk ((!(((Z7.getD i.toNat default).length : Int) == (0 : Int))) = true → 0 ≤ i ∧ i < (Z7.length : Int)) <|
  chk ((!(((Z7.getD i.toNat default).length : Int) == (0 : Int))) = true → 0 ≤ (0 : Int) ∧ (0 : Int) < (Z7.length : Int)) <|
  br (((((Z7.getD i.toNat default).length : Int) == (0 : Int)) || (((Z7.getD i.toNat default).length : Int) != ((Z7.getD 0 default).length : Int)))) (
  some (i, (0 : Int), (10 : Int))) (
  chk (0 ≤ i ∧ i < (Z7.length : Int)) <|
  br (decide (((Z7.getD i.toNat default).length : Int) > (12 : Int))) (
  some (i, (0 : Int), (8 : Int))) (
  rds (ref09_CheckRaster.b2 N Z7 i K_1) N (0 : Int)))) (
  K_ ())
def ref09_CheckRaster (N : Nat) (Z7 : List (List Int)) : Option (Int × Int × Int) :=
  br (((Z7.length : Int) == (0 : Int))) (
  some ((0 : Int), (0 : Int), (10 : Int))) (
  br (decide ((Z7.length : Int) > (12 : Int))) (
  some ((0 : Int), (0 : Int), (8 : Int))) (
  jn (τ := Unit) (fun (_ : Unit) =>
    some ((0 : Int), (0 : Int), (0 : Int))) fun K_ =>
  rds (ref09_CheckRaster.b1 N Z7 K_) N (0 : Int)))

def ref09_RasterErr (N : Nat) (Z7 : List (List Int)) : Option Int :=
  bnd (ref09_CheckRaster N Z7) fun (x1, x11, x12) =>
  some x12

def base_IsName.b1 (N : Nat) (s : ByteArray) (K_ : Unit → Option Bool) (rec : Int → Option Bool) : Int → Option Bool := fun i =>
  br (decide (i < (s.size : Int))) (
  chk (0 ≤ i ∧ i < (s.size : Int)) <|
  br (((!(((decide ((s.data.getD i.toNat 0).toNat ≥ (97 : Int))) && (decide ((s.data.getD i.toNat 0).toNat ≤ (122 : Int)))) || ((decide ((s.data.getD i.toNat 0).toNat ≥ (65 : Int))) && (decide ((s.data.getD i.toNat 0).toNat ≤ (90 : Int)))))) && ((i == (0 : Int)) || (((s.data.getD i.toNat 0).toNat != (45 : Int)) && ((decide ((s.data.getD i.toNat 0).toNat < (48 : Int))) || (decide ((s.data.getD i.toNat 0).toNat > (57 : Int)))))))) (
  some false) (
  rec (w64 (i + (1 : Int))))) (
  K_ ())
def base_IsName (N : Nat) (s : ByteArray) : Option Bool :=
  br (((decide ((s.size : Int) < (1 : Int))) || (decide ((s.size : Int) > (12 : Int))))) (
  some false) (
  jn (τ := Unit) (fun (_ : Unit) =>
    some true) fun K_ =>
  rds (base_IsName.b1 N s K_) N (0 : Int))

def ref09_IdentityErr (N : Nat) (n : Int) : Option Int :=
  bnd (base_Within N n (0 : Int) (1007 : Int)) fun x1 =>
  br (!x1) (
  some (2 : Int)) (
  some (0 : Int))

def ref09_ItselfErr (N : Nat) (Z4 : ByteArray) (Z2 : Int) (Z0 : Int) (Z1 : Int) (Z3 : Int) (Z5 : Int) (Z6 : Int) : Option Int :=
  bnd (base_IsName N Z4) fun x1 =>
  br (!x1) (
  some (4 : Int)) (
  bnd (ref09_IdentityErr N Z2) fun x2 =>
  some x2)

def ref09_PointErr (N : Nat) (Z7 : List (List Int)) (at_0 : Int) (at_1 : Int) : Option Int :=
  bnd (base_Within N at_0 (0 : Int) (w64 ((Z7.length : Int) - (1 : Int)))) fun x1 =>
  chk (x1 = true → 0 ≤ (0 : Int) ∧ (0 : Int) < (Z7.length : Int)) <|
  bnd (grd x1 false (base_Within N at_1 (0 : Int) (w64 (((Z7.getD 0 default).length : Int) - (1 : Int))))) fun x2 =>
  br (((!x1) || (!x2))) (
  some (6 : Int)) (
  some (0 : Int))

def ref09_isTilt (N : Nat) (n : Int) : Option Bool :=
  bnd (base_Within N n (0 : Int) (11 : Int)) fun x1 =>
  some x1

def ref09_NumbersErr (N : Nat) (Z4 : ByteArray) (Z2 : Int) (Z0 : Int) (Z1 : Int) (Z3 : Int) (Z5 : Int) (Z6 : Int) : Option Int :=
  bnd (base_Within N Z3 (1 : Int) (200 : Int)) fun x1 =>
  bnd (grd x1 false (base_Within N Z5 (-2000 : Int) (1000 : Int))) fun x2 =>
  bnd (grd (!((!x1) || (!x2))) false (ref09_isTilt N Z6)) fun x3 =>
  br ((((!x1) || (!x2)) || (!x3))) (
  some (2 : Int)) (
  some (0 : Int))

def ref09_CellErr (N : Nat) (Z7 : List (List Int)) (Z4 : ByteArray) (Z2 : Int) (Z0 : Int) (Z1 : Int) (Z3 : Int) (Z5 : Int) (Z6 : Int) : Option Int :=
  bnd (ref09_RasterErr N Z7) fun x1 =>
  br ((x1 != (0 : Int))) (
  some x1) (
  bnd (ref09_ItselfErr N Z4 Z2 Z0 Z1 Z3 Z5 Z6) fun x2 =>
  br ((x2 != (0 : Int))) (
  some x2) (
  bnd (ref09_PointErr N Z7 Z0 Z1) fun x3 =>
  br ((x3 != (0 : Int))) (
  some x3) (
  bnd (ref09_NumbersErr N Z4 Z2 Z0 Z1 Z3 Z5 Z6) fun x4 =>
  some x4)))

def law09_PlanRasters (N : Nat) (Z7 : List (List Int)) (Z4 : ByteArray) (Z2 : Int) (Z0 : Int) (Z1 : Int) (Z3 : Int) (Z5 : Int) (Z6 : Int) : Option Bool :=
  bnd (law09_awake N ) fun x1 =>
  br (!x1) (
  some false) (
  bnd (law09_raster N Z7) fun x2 =>
  br (((!x2) || (decide ((Z4.size : Int) > (20 : Int))))) (
  some true) (
  bnd (ref09_CopyRaster N Z7) fun x3 =>
  bnd (plan_CheckRaster N x3) fun (x4, x41, x42) =>
  bnd (ref09_CopyRaster N Z7) fun x5 =>
  bnd (plan_CheckCell N x5 Z4 Z2 Z0 Z1 Z3 Z5 Z6) fun x6 =>
  bnd (ref09_CheckRaster N Z7) fun (x7, x71, x72) =>
  bnd (grd ((x42 == x72) && ((x4 == x7) && (x41 == x71))) 0 (ref09_CellErr N Z7 Z4 Z2 Z0 Z1 Z3 Z5 Z6)) fun x8 =>
  some (((x42 == x72) && ((x4 == x7) && (x41 == x71))) && (x6 == x8))))
end
end Go.Sh
