import Derived.Test.YtikelkndldaejaaCsH
set_option linter.all false
namespace Go.Sh
open Go.PW
noncomputable section
def code_within (N : Nat) (n : Int) (lo : Int) (hi : Int) : Option Bool :=
  some ((decide (lo ≤ n)) && (decide (n ≤ hi)))

def code_unless (N : Nat) (is_ : Bool) (e : Int) : Option Int :=
  br (is_) (
  some (0 : Int)) (
  some e)

def code_first.b1 (N : Nat) (l : List Int) (K_ : Unit → Option Int) (rec : Int → Option Int) : Int → Option Int := fun t7 =>
  br (decide (t7 < (l.length : Int))) (
  chk (0 ≤ t7 ∧ t7 < (l.length : Int)) <|
  br (((l.getD t7.toNat 0) != (0 : Int))) (
  some (l.getD t7.toNat 0)) (
  rec (w64 (t7 + (1 : Int))))) (
  K_ ())
def code_first (N : Nat) (l : List Int) : Option Int :=
  jn (τ := Unit) (fun (_ : Unit) =>
    some (0 : Int)) fun K_ =>
  rds (code_first.b1 N l K_) N (0 : Int)

def code_CheckPoly (N : Nat) (p_Degree : Int) (p_Taps : Int) : Option Int :=
  bnd (code_within N p_Degree (1 : Int) (16 : Int)) fun x1 =>
  br (!x1) (
  some (2 : Int)) (
  chk (0 ≤ p_Degree) <|
  bnd (code_within N p_Taps (1 : Int) (w64 ((shlI (1 : Int) p_Degree) - (1 : Int)))) fun x2 =>
  bnd (code_unless N x2 (2 : Int)) fun x3 =>
  bnd (code_unless N (p_Taps.tmod (2 : Int) == (1 : Int)) (3 : Int)) fun x4 =>
  bnd (code_first N ([x3, x4] : List Int)) fun x5 =>
  some x5)

def code_listErr_1 (N : Nat) (n : Int) (a1 : Int → Option Bool) : Option Bool :=
  bnd (a1 n) fun x1 =>
  some (!x1)

def slices_IndexFunc_ii.b1 (N : Nat) (s : List Int) (f : Int → Option Bool) (K_ : Unit → Option Int) (rec : Int → Option Int) : Int → Option Int := fun t8 =>
  br (decide (t8 < (s.length : Int))) (
  chk (0 ≤ t8 ∧ t8 < (s.length : Int)) <|
  bnd (f (s.getD t8.toNat 0)) fun x1 =>
  br (x1) (
  some t8) (
  rec (w64 (t8 + (1 : Int))))) (
  K_ ())
def slices_IndexFunc_ii (N : Nat) (s : List Int) (f : Int → Option Bool) : Option Int :=
  jn (τ := Unit) (fun (_ : Unit) =>
    some (-1 : Int)) fun K_ =>
  rds (slices_IndexFunc_ii.b1 N s f K_) N (0 : Int)

def slices_ContainsFunc_ii (N : Nat) (s : List Int) (f : Int → Option Bool) : Option Bool :=
  bnd (slices_IndexFunc_ii N s f) fun x1 =>
  some (decide (x1 ≥ (0 : Int)))

def code_listErr (N : Nat) (l : List Int) (most : Int) (right : Int → Option Bool) (e : Int) : Option Int :=
  bnd (slices_ContainsFunc_ii N l (fun y0 => code_listErr_1 N y0 right)) fun x1 =>
  bnd (code_unless N (decide ((l.length : Int) > (0 : Int))) (10 : Int)) fun x2 =>
  bnd (code_unless N (decide ((l.length : Int) ≤ most)) (8 : Int)) fun x3 =>
  bnd (code_unless N (!x1) e) fun x4 =>
  bnd (code_first N ([x2, x3, x4] : List Int)) fun x5 =>
  some x5

def code_isBit (N : Nat) (n : Int) : Option Bool :=
  some ((n == (0 : Int)) || (n == (1 : Int)))

def code_bitsErr (N : Nat) (l : List Int) : Option Int :=
  bnd (code_listErr N l (200 : Int) (fun y0 => code_isBit N y0) (15 : Int)) fun x1 =>
  some x1

def code_remainder.b1 (N : Nat) (p_Degree : Int) (p_Taps : Int) (bits : List Int) (K_ : Int → Option (List Int)) (rec : Int × Int → Option (List Int)) : Int × Int → Option (List Int) := fun (register1, t18) =>
  br (decide (t18 < (bits.length : Int))) (
  chk (0 ≤ t18 ∧ t18 < (bits.length : Int)) <|
  br (((andI register1 (shlI (1 : Int) (w64 (p_Degree - (1 : Int)))) != (0 : Int)) != ((bits.getD t18.toNat 0) == (1 : Int)))) (
  rec (xorI (andI (shlI register1 (1 : Int)) (w64 ((w64 ((2 : Int) * (shlI (1 : Int) (w64 (p_Degree - (1 : Int)))))) - (1 : Int)))) p_Taps, w64 (t18 + (1 : Int)))) (
  rec (andI (shlI register1 (1 : Int)) (w64 ((w64 ((2 : Int) * (shlI (1 : Int) (w64 (p_Degree - (1 : Int)))))) - (1 : Int))), w64 (t18 + (1 : Int))))) (
  K_ register1)
def code_remainder.b2 (N : Nat) (register : Int) (K_1 : List Int → Option (List Int)) (rec1 : Int × List Int → Option (List Int)) : Int × List Int → Option (List Int) := fun (top, b01) =>
  br (decide (top > (0 : Int))) (
  br ((andI register top != (0 : Int))) (
  chk (b01.length + ([(1 : Int)] : List Int).length ≤ 1000000000) <|
  rec1 (shrI top (1 : Int), (b01 ++ ([(1 : Int)] : List Int)))) (
  chk (b01.length + ([(0 : Int)] : List Int).length ≤ 1000000000) <|
  rec1 (shrI top (1 : Int), (b01 ++ ([(0 : Int)] : List Int))))) (
  K_1 b01)
def code_remainder (N : Nat) (p_Degree : Int) (p_Taps : Int) (bits : List Int) : Option (List Int) :=
  chk (0 ≤ w64 (p_Degree - (1 : Int))) <|
  jn (τ := Int) (fun (register : Int) =>
    jn (τ := List Int) (fun (b0 : List Int) =>
      some b0) fun K_1 =>
    rds (code_remainder.b2 N register K_1) N (shlI (1 : Int) (w64 (p_Degree - (1 : Int))), ([] : List Int))) fun K_ =>
  rds (code_remainder.b1 N p_Degree p_Taps bits K_) N ((0 : Int), (0 : Int))

def code_Remainder (N : Nat) (p_Degree : Int) (p_Taps : Int) (bits : List Int) : Option (List Int × Int) :=
  bnd (code_CheckPoly N p_Degree p_Taps) fun x1 =>
  bnd (code_bitsErr N bits) fun x2 =>
  bnd (code_first N ([x1, x2] : List Int)) fun x3 =>
  br ((x3 != (0 : Int))) (
  some (([] : List Int), x3)) (
  bnd (code_remainder N p_Degree p_Taps bits) fun x4 =>
  some (x4, (0 : Int)))

def code_isPower (N : Nat) (n : Int) : Option Bool :=
  bnd (code_within N n (0 : Int) (6 : Int)) fun x1 =>
  some x1

def code_CheckPolar.b1 (N : Nat) (c_Power : Int) (c_Info : List Int) (K_ : Unit → Option Int) (rec : Int × Int → Option Int) : Int × Int → Option Int := fun (before, t25) =>
  br (decide (t25 < (c_Info.length : Int))) (
  chk (0 ≤ t25 ∧ t25 < (c_Info.length : Int)) <|
  chk (0 ≤ c_Power) <|
  bnd (code_within N (c_Info.getD t25.toNat 0) (0 : Int) (w64 ((shlI (1 : Int) c_Power) - (1 : Int)))) fun x5 =>
  bnd (code_unless N x5 (2 : Int)) fun x6 =>
  bnd (code_unless N (decide ((c_Info.getD t25.toNat 0) > before)) (9 : Int)) fun x7 =>
  bnd (code_first N ([x6, x7] : List Int)) fun x8 =>
  br ((x8 != (0 : Int))) (
  some x8) (
  rec ((c_Info.getD t25.toNat 0), w64 (t25 + (1 : Int))))) (
  K_ ())
def code_CheckPolar (N : Nat) (c_Power : Int) (c_Info : List Int) : Option Int :=
  bnd (code_isPower N c_Power) fun x1 =>
  bnd (code_unless N x1 (2 : Int)) fun x2 =>
  bnd (code_unless N (decide ((c_Info.length : Int) > (0 : Int))) (10 : Int)) fun x3 =>
  bnd (code_first N ([x2, x3] : List Int)) fun x4 =>
  br ((x4 != (0 : Int))) (
  some x4) (
  jn (τ := Unit) (fun (_ : Unit) =>
    some (0 : Int)) fun K_ =>
  rds (code_CheckPolar.b1 N c_Power c_Info K_) N ((-1 : Int), (0 : Int)))

def code_encode.b1 (N : Nat) (c_Info : List Int) (info : List Int) (K_ : List Int → Option (List Int)) (rec : Int × List Int → Option (List Int)) : Int × List Int → Option (List Int) := fun (t15, b11) =>
  br (decide (t15 < (c_Info.length : Int))) (
  chk (0 ≤ t15 ∧ t15 < (c_Info.length : Int)) <|
  chk (0 ≤ t15 ∧ t15 < (info.length : Int)) <|
  chk (0 ≤ (c_Info.getD t15.toNat 0) ∧ (c_Info.getD t15.toNat 0) < (b11.length : Int)) <|
  rec (w64 (t15 + (1 : Int)), (b11.set ((c_Info.getD t15.toNat 0).toNat) (info.getD t15.toNat 0)))) (
  K_ b11)
def code_encode.b3 (N : Nat) (step : Int) (b13 : List Int) (K_2 : List Int → Option (List Int)) (rec2 : Int × List Int → Option (List Int)) : Int × List Int → Option (List Int) := fun (t13, b15) =>
  br (decide (t13 < (b13.length : Int))) (
  br ((andI t13 step == (0 : Int))) (
  chk (0 ≤ t13 ∧ t13 < (b15.length : Int)) <|
  chk (0 ≤ w64 (t13 + step) ∧ w64 (t13 + step) < (b15.length : Int)) <|
  chk (0 ≤ t13 ∧ t13 < (b15.length : Int)) <|
  rec2 (w64 (t13 + (1 : Int)), (b15.set t13.toNat (xorI (b15.getD t13.toNat 0) (b15.getD ((w64 (t13 + step)).toNat) 0))))) (
  rec2 (w64 (t13 + (1 : Int)), b15))) (
  K_2 b15)
def code_encode.b2 (N : Nat) (K_1 : List Int → Option (List Int)) (rec1 : Int × List Int → Option (List Int)) : Int × List Int → Option (List Int) := fun (step, b13) =>
  br (decide (step < (b13.length : Int))) (
  jn (τ := List Int) (fun (b14 : List Int) =>
    rec1 (w64 (step * (2 : Int)), b14)) fun K_2 =>
  rds (code_encode.b3 N step b13 K_2) N ((0 : Int), b13)) (
  K_1 b13)
def code_encode (N : Nat) (c_Power : Int) (c_Info : List Int) (info : List Int) : Option (List Int) :=
  chk (0 ≤ c_Power) <|
  chk (0 ≤ shlI (1 : Int) c_Power ∧ shlI (1 : Int) c_Power ≤ 1000000000) <|
  jn (τ := List Int) (fun (b1 : List Int) =>
    jn (τ := List Int) (fun (b12 : List Int) =>
      some b12) fun K_1 =>
    rds (code_encode.b2 N K_1) N ((1 : Int), b1)) fun K_ =>
  rds (code_encode.b1 N c_Info info K_) N ((0 : Int), (List.replicate (shlI (1 : Int) c_Power).toNat (0 : Int)))

def code_upTo_1 (N : Nat) (n : Int) (a1 : Int) : Option Bool :=
  bnd (code_within N n (w64 (0 - a1)) a1) fun x1 =>
  some x1

def code_softErr (N : Nat) (l : List Int) : Option Int :=
  bnd (code_listErr N l (400 : Int) (fun y0 => code_upTo_1 N y0 (1000000 : Int)) (2 : Int)) fun x1 =>
  some x1

def cmp_isNaN_int (N : Nat) (x : Int) : Option Bool :=
  some (x != x)

def cmp_Less_int (N : Nat) (x : Int) (y : Int) : Option Bool :=
  bnd (cmp_isNaN_int N x) fun x1 =>
  bnd (grd x1 false (cmp_isNaN_int N y)) fun x2 =>
  some ((x1 && (!x2)) || (decide (x < y)))

def slices_isNaN_int (N : Nat) (x : Int) : Option Bool :=
  some (x != x)

def slices_BinarySearch_ii.b1 (N : Nat) (x : List Int) (target : Int) (K_ : Int → Option (Int × Bool)) (rec : Int × Int → Option (Int × Bool)) : Int × Int → Option (Int × Bool) := fun (i1, j) =>
  br (decide (i1 < j)) (
  chk (0 ≤ w64 (shrI (wu64 (w64 (i1 + j))) (1 : Int)) ∧ w64 (shrI (wu64 (w64 (i1 + j))) (1 : Int)) < (x.length : Int)) <|
  bnd (cmp_Less_int N (x.getD ((w64 (shrI (wu64 (w64 (i1 + j))) (1 : Int))).toNat) 0) target) fun x1 =>
  br (x1) (
  rec (w64 ((w64 (shrI (wu64 (w64 (i1 + j))) (1 : Int))) + (1 : Int)), j)) (
  rec (i1, w64 (shrI (wu64 (w64 (i1 + j))) (1 : Int))))) (
  K_ i1)
def slices_BinarySearch_ii (N : Nat) (x : List Int) (target : Int) : Option (Int × Bool) :=
  jn (τ := Int) (fun (i : Int) =>
    chk ((decide (i < (x.length : Int))) = true → 0 ≤ i ∧ i < (x.length : Int)) <|
    chk (((decide (i < (x.length : Int))) && !((x.getD i.toNat 0) == target)) = true → 0 ≤ i ∧ i < (x.length : Int)) <|
    bnd (grd ((decide (i < (x.length : Int))) && !((x.getD i.toNat 0) == target)) false (slices_isNaN_int N (x.getD i.toNat 0))) fun x2 =>
    bnd (grd (((decide (i < (x.length : Int))) && !((x.getD i.toNat 0) == target)) && x2) false (slices_isNaN_int N target)) fun x3 =>
    some (i, ((decide (i < (x.length : Int))) && (((x.getD i.toNat 0) == target) || (x2 && x3))))) fun K_ =>
  rds (slices_BinarySearch_ii.b1 N x target K_) N ((0 : Int), (x.length : Int))

def code_decode_1 (N : Nat) (position : Int) (a1_Power : Int) (a1_Info : List Int) : Option Bool :=
  bnd (slices_BinarySearch_ii N a1_Info position) fun (x1, x11) =>
  some x11

def code_size (N : Nat) (n : Int) : Option Int :=
  some (if n < w64 (0 - n) then w64 (0 - n) else n)

def cmp_Compare_int (N : Nat) (x : Int) (y : Int) : Option Int :=
  bnd (cmp_isNaN_int N x) fun x1 =>
  bnd (cmp_isNaN_int N y) fun x2 =>
  br (x1) (
  br (x2) (
  some (0 : Int)) (
  some (-1 : Int))) (
  br (x2) (
  some (1 : Int)) (
  br (decide (x < y)) (
  some (-1 : Int)) (
  br (decide (x > y)) (
  some (1 : Int)) (
  some (0 : Int)))))

def code_sign (N : Nat) (n : Int) : Option Int :=
  bnd (cmp_Compare_int N n (0 : Int)) fun x1 =>
  some x1

def code_cancel.b1 (N : Nat) (soft : List Int) (K_ : List Int → Option (List Int)) (rec : Int × List Int → Option (List Int)) : Int × List Int → Option (List Int) := fun (t40, b01) =>
  br (decide (t40 < w64 ((soft.length : Int).tdiv (2 : Int)))) (
  chk (0 ≤ t40 ∧ t40 < ((soft.take ((w64 ((soft.length : Int).tdiv (2 : Int))).toNat)).length : Int)) <|
  bnd (code_size N ((soft.take ((w64 ((soft.length : Int).tdiv (2 : Int))).toNat)).getD t40.toNat 0)) fun x2 =>
  chk (0 ≤ t40 ∧ t40 < (((soft.drop ((w64 ((soft.length : Int).tdiv (2 : Int))).toNat)).take (soft.length - (w64 ((soft.length : Int).tdiv (2 : Int))).toNat)).length : Int)) <|
  bnd (code_size N (((soft.drop ((w64 ((soft.length : Int).tdiv (2 : Int))).toNat)).take (soft.length - (w64 ((soft.length : Int).tdiv (2 : Int))).toNat)).getD t40.toNat 0)) fun x3 =>
  chk (0 ≤ t40 ∧ t40 < ((soft.take ((w64 ((soft.length : Int).tdiv (2 : Int))).toNat)).length : Int)) <|
  bnd (code_sign N ((soft.take ((w64 ((soft.length : Int).tdiv (2 : Int))).toNat)).getD t40.toNat 0)) fun x4 =>
  chk (0 ≤ t40 ∧ t40 < (((soft.drop ((w64 ((soft.length : Int).tdiv (2 : Int))).toNat)).take (soft.length - (w64 ((soft.length : Int).tdiv (2 : Int))).toNat)).length : Int)) <|
  bnd (code_sign N (((soft.drop ((w64 ((soft.length : Int).tdiv (2 : Int))).toNat)).take (soft.length - (w64 ((soft.length : Int).tdiv (2 : Int))).toNat)).getD t40.toNat 0)) fun x5 =>
  chk (0 ≤ t40 ∧ t40 < (b01.length : Int)) <|
  rec (w64 (t40 + (1 : Int)), (b01.set t40.toNat (w64 ((w64 ((if x3 < x2 then x3 else x2) * x4)) * x5))))) (
  K_ b01)
def code_cancel.b3 (N : Nat) (step : Int) (b21 : List Int) (K_3 : List Int → Option (List Int)) (rec2 : Int × List Int → Option (List Int)) : Int × List Int → Option (List Int) := fun (t13, b23) =>
  br (decide (t13 < (b21.length : Int))) (
  br ((andI t13 step == (0 : Int))) (
  chk (0 ≤ t13 ∧ t13 < (b23.length : Int)) <|
  chk (0 ≤ w64 (t13 + step) ∧ w64 (t13 + step) < (b23.length : Int)) <|
  chk (0 ≤ t13 ∧ t13 < (b23.length : Int)) <|
  rec2 (w64 (t13 + (1 : Int)), (b23.set t13.toNat (xorI (b23.getD t13.toNat 0) (b23.getD ((w64 (t13 + step)).toNat) 0))))) (
  rec2 (w64 (t13 + (1 : Int)), b23))) (
  K_3 b23)
def code_cancel.b2 (N : Nat) (K_2 : List Int → Option (List Int)) (rec1 : Int × List Int → Option (List Int)) : Int × List Int → Option (List Int) := fun (step, b21) =>
  br (decide (step < (b21.length : Int))) (
  jn (τ := List Int) (fun (b22 : List Int) =>
    rec1 (w64 (step * (2 : Int)), b22)) fun K_3 =>
  rds (code_cancel.b3 N step b21 K_3) N ((0 : Int), b21)) (
  K_2 b21)
def code_cancel.b4 (N : Nat) (soft : List Int) (K_1 : List Int → Option (List Int)) (b2 : List Int) (rec3 : Int × List Int → Option (List Int)) : Int × List Int → Option (List Int) := fun (t78, b03) =>
  br (decide (t78 < (b2.length : Int))) (
  chk (0 ≤ t78 ∧ t78 < (b2.length : Int)) <|
  chk (0 ≤ t78 ∧ t78 < (((soft.drop ((w64 ((soft.length : Int).tdiv (2 : Int))).toNat)).take (soft.length - (w64 ((soft.length : Int).tdiv (2 : Int))).toNat)).length : Int)) <|
  chk (0 ≤ t78 ∧ t78 < ((soft.take ((w64 ((soft.length : Int).tdiv (2 : Int))).toNat)).length : Int)) <|
  chk (0 ≤ t78 ∧ t78 < (b03.length : Int)) <|
  br (((b2.getD t78.toNat 0) == (1 : Int))) (
  chk (0 ≤ t78 ∧ t78 < (((soft.drop ((w64 ((soft.length : Int).tdiv (2 : Int))).toNat)).take (soft.length - (w64 ((soft.length : Int).tdiv (2 : Int))).toNat)).length : Int)) <|
  chk (0 ≤ t78 ∧ t78 < ((soft.take ((w64 ((soft.length : Int).tdiv (2 : Int))).toNat)).length : Int)) <|
  chk (0 ≤ t78 ∧ t78 < ((b03.set t78.toNat (w64 ((((soft.drop ((w64 ((soft.length : Int).tdiv (2 : Int))).toNat)).take (soft.length - (w64 ((soft.length : Int).tdiv (2 : Int))).toNat)).getD t78.toNat 0) + ((soft.take ((w64 ((soft.length : Int).tdiv (2 : Int))).toNat)).getD t78.toNat 0)))).length : Int)) <|
  rec3 (w64 (t78 + (1 : Int)), ((b03.set t78.toNat (w64 ((((soft.drop ((w64 ((soft.length : Int).tdiv (2 : Int))).toNat)).take (soft.length - (w64 ((soft.length : Int).tdiv (2 : Int))).toNat)).getD t78.toNat 0) + ((soft.take ((w64 ((soft.length : Int).tdiv (2 : Int))).toNat)).getD t78.toNat 0)))).set t78.toNat (w64 ((((soft.drop ((w64 ((soft.length : Int).tdiv (2 : Int))).toNat)).take (soft.length - (w64 ((soft.length : Int).tdiv (2 : Int))).toNat)).getD t78.toNat 0) - ((soft.take ((w64 ((soft.length : Int).tdiv (2 : Int))).toNat)).getD t78.toNat 0)))))) (
  rec3 (w64 (t78 + (1 : Int)), (b03.set t78.toNat (w64 ((((soft.drop ((w64 ((soft.length : Int).tdiv (2 : Int))).toNat)).take (soft.length - (w64 ((soft.length : Int).tdiv (2 : Int))).toNat)).getD t78.toNat 0) + ((soft.take ((w64 ((soft.length : Int).tdiv (2 : Int))).toNat)).getD t78.toNat 0))))))) (
  K_1 b03)
def code_cancel.b (N : Nat) (isInfo : Int → Option Bool) (self_ : List Int × Int → Option (List Int)) : List Int × Int → Option (List Int) := fun (soft, from_) =>
  br ((w64 ((soft.length : Int).tdiv (2 : Int)) == (0 : Int))) (
  bnd (isInfo from_) fun x1 =>
  chk (x1 = true → 0 ≤ (0 : Int) ∧ (0 : Int) < (soft.length : Int)) <|
  br ((x1 && (decide ((soft.getD 0 0) < (0 : Int))))) (
  some ([(1 : Int)] : List Int)) (
  some ([(0 : Int)] : List Int))) (
  chk (0 ≤ (0 : Int) ∧ (0 : Int) ≤ w64 ((soft.length : Int).tdiv (2 : Int)) ∧ w64 ((soft.length : Int).tdiv (2 : Int)) ≤ (soft.length : Int)) <|
  chk (0 ≤ w64 ((soft.length : Int).tdiv (2 : Int)) ∧ w64 ((soft.length : Int).tdiv (2 : Int)) ≤ (soft.length : Int) ∧ (soft.length : Int) ≤ (soft.length : Int)) <|
  chk (0 ≤ w64 ((soft.length : Int).tdiv (2 : Int)) ∧ w64 ((soft.length : Int).tdiv (2 : Int)) ≤ 1000000000) <|
  jn (τ := List Int) (fun (b0 : List Int) =>
    bnd (self_ (b0, from_)) fun x6 =>
    jn (τ := List Int) (fun (b02 : List Int) =>
      bnd (self_ (b02, w64 (from_ + (w64 ((soft.length : Int).tdiv (2 : Int)))))) fun x8 =>
      chk (x6.length + x8.length ≤ 1000000000) <|
      some (x6 ++ x8)) fun K_1 =>
    bnd (slices_Clone_ii N x6) fun x7 =>
    jn (τ := List Int) (fun (b2 : List Int) =>
      rds (code_cancel.b4 N soft K_1 b2) N ((0 : Int), b0)) fun K_2 =>
    rds (code_cancel.b2 N K_2) N ((1 : Int), x7)) fun K_ =>
  rds (code_cancel.b1 N soft K_) N ((0 : Int), (List.replicate (w64 ((soft.length : Int).tdiv (2 : Int))).toNat (0 : Int))))
def code_cancel (N : Nat) (soft : List Int) (from_ : Int) (isInfo : Int → Option Bool) : Option (List Int) := rds (code_cancel.b N isInfo) N (soft, from_)

def code_decode.b1 (N : Nat) (c_Info : List Int) (x1 : List Int) (K_ : List Int → Option (List Int)) (rec : Int × List Int → Option (List Int)) : Int × List Int → Option (List Int) := fun (t15, b21) =>
  br (decide (t15 < (c_Info.length : Int))) (
  chk (0 ≤ t15 ∧ t15 < (c_Info.length : Int)) <|
  chk (0 ≤ (c_Info.getD t15.toNat 0) ∧ (c_Info.getD t15.toNat 0) < (x1.length : Int)) <|
  chk (b21.length + ([(x1.getD ((c_Info.getD t15.toNat 0).toNat) 0)] : List Int).length ≤ 1000000000) <|
  rec (w64 (t15 + (1 : Int)), (b21 ++ ([(x1.getD ((c_Info.getD t15.toNat 0).toNat) 0)] : List Int)))) (
  K_ b21)
def code_decode (N : Nat) (c_Power : Int) (c_Info : List Int) (soft : List Int) : Option (List Int) :=
  bnd (code_cancel N soft (0 : Int) (fun y0 => code_decode_1 N y0 c_Power c_Info)) fun x1 =>
  jn (τ := List Int) (fun (b2 : List Int) =>
    some b2) fun K_ =>
  rds (code_decode.b1 N c_Info x1 K_) N ((0 : Int), ([] : List Int))

def code_Decode (N : Nat) (c_Power : Int) (c_Info : List Int) (soft : List Int) : Option (List Int × Int) :=
  bnd (code_CheckPolar N c_Power c_Info) fun x1 =>
  bnd (code_softErr N soft) fun x2 =>
  bnd (code_first N ([x1, x2] : List Int)) fun x3 =>
  br ((x3 != (0 : Int))) (
  some (([] : List Int), x3)) (
  chk (0 ≤ c_Power) <|
  br (((soft.length : Int) != shlI (1 : Int) c_Power)) (
  some (([] : List Int), (10 : Int))) (
  bnd (code_decode N c_Power c_Info soft) fun x4 =>
  some (x4, (0 : Int))))

def code_isVersion (N : Nat) (n : Int) : Option Bool :=
  bnd (code_within N n (0 : Int) (3 : Int)) fun x1 =>
  some x1

def code_isCount (N : Nat) (n : Int) : Option Bool :=
  bnd (code_within N n (1 : Int) (400 : Int)) fun x1 =>
  some x1

def code_match.b1 (N : Nat) (word : List Int) (version : Int) (count : Int) (K_ : List Int → Option (List Int)) (rec : Int × List Int → Option (List Int)) : Int × List Int → Option (List Int) := fun (t12, b51) =>
  br (decide (t12 < count)) (
  chk ((word.length : Int) ≠ 0) <|
  chk (0 ≤ (w64 ((w64 ((w64 (version * (word.length : Int))).tdiv (4 : Int))) + t12)).tmod (word.length : Int) ∧ (w64 ((w64 ((w64 (version * (word.length : Int))).tdiv (4 : Int))) + t12)).tmod (word.length : Int) < (word.length : Int)) <|
  chk (b51.length + ([(word.getD (((w64 ((w64 ((w64 (version * (word.length : Int))).tdiv (4 : Int))) + t12)).tmod (word.length : Int)).toNat) 0)] : List Int).length ≤ 1000000000) <|
  br (!true) (
  K_ (b51 ++ ([(word.getD (((w64 ((w64 ((w64 (version * (word.length : Int))).tdiv (4 : Int))) + t12)).tmod (word.length : Int)).toNat) 0)] : List Int))) (
  rec (w64 (t12 + (1 : Int)), (b51 ++ ([(word.getD (((w64 ((w64 ((w64 (version * (word.length : Int))).tdiv (4 : Int))) + t12)).tmod (word.length : Int)).toNat) 0)] : List Int))))) (
  K_ b51)
def code_match (N : Nat) (word : List Int) (version : Int) (count : Int) : Option (List Int) :=
  jn (τ := List Int) (fun (b5 : List Int) =>
    some b5) fun K_ =>
  rds (code_match.b1 N word version count K_) N ((0 : Int), ([] : List Int))

def base_Ints.b1 (N : Nat) (a : List Int) (b : List Int) (K_ : Unit → Option Bool) (rec : Int → Option Bool) : Int → Option Bool := fun i =>
  br (decide (i < (a.length : Int))) (
  chk (0 ≤ i ∧ i < (a.length : Int)) <|
  chk (0 ≤ i ∧ i < (b.length : Int)) <|
  br (((a.getD i.toNat 0) != (b.getD i.toNat 0))) (
  some false) (
  rec (w64 (i + (1 : Int))))) (
  K_ ())
def base_Ints (N : Nat) (a : List Int) (b : List Int) : Option Bool :=
  br (((a.length : Int) != (b.length : Int))) (
  some false) (
  jn (τ := Unit) (fun (_ : Unit) =>
    some true) fun K_ =>
  rds (base_Ints.b1 N a b K_) N (0 : Int))

def base_Within (N : Nat) (n : Int) (lo : Int) (hi : Int) : Option Bool :=
  some ((decide (lo ≤ n)) && (decide (n ≤ hi)))

def ref02_power.b1 (N : Nat) (n : Int) (K_ : Int → Option Int) (rec : Int × Int → Option Int) : Int × Int → Option Int := fun (out1, i) =>
  br (decide (i < n)) (
  rec (w64 ((2 : Int) * out1), w64 (i + (1 : Int)))) (
  K_ out1)
def ref02_power (N : Nat) (n : Int) : Option Int :=
  jn (τ := Int) (fun (out : Int) =>
    some out) fun K_ =>
  rds (ref02_power.b1 N n K_) N ((1 : Int), (0 : Int))

def ref02_CheckPolar.b1 (N : Nat) (c_Power : Int) (c_Info : List Int) (K_ : Unit → Option Int) (rec : Int → Option Int) : Int → Option Int := fun i =>
  br (decide (i < (c_Info.length : Int))) (
  chk (0 ≤ i ∧ i < (c_Info.length : Int)) <|
  bnd (ref02_power N c_Power) fun x2 =>
  bnd (base_Within N (c_Info.getD i.toNat 0) (0 : Int) (w64 (x2 - (1 : Int)))) fun x3 =>
  br (!x3) (
  some (2 : Int)) (
  chk ((decide (i > (0 : Int))) = true → 0 ≤ i ∧ i < (c_Info.length : Int)) <|
  chk ((decide (i > (0 : Int))) = true → 0 ≤ w64 (i - (1 : Int)) ∧ w64 (i - (1 : Int)) < (c_Info.length : Int)) <|
  br (((decide (i > (0 : Int))) && (decide ((c_Info.getD i.toNat 0) ≤ (c_Info.getD ((w64 (i - (1 : Int))).toNat) 0))))) (
  some (9 : Int)) (
  rec (w64 (i + (1 : Int)))))) (
  K_ ())
def ref02_CheckPolar (N : Nat) (c_Power : Int) (c_Info : List Int) : Option Int :=
  bnd (base_Within N c_Power (0 : Int) (6 : Int)) fun x1 =>
  br (!x1) (
  some (2 : Int)) (
  br (((c_Info.length : Int) == (0 : Int))) (
  some (10 : Int)) (
  jn (τ := Unit) (fun (_ : Unit) =>
    some (0 : Int)) fun K_ =>
  rds (ref02_CheckPolar.b1 N c_Power c_Info K_) N (0 : Int)))

def base_AreBits.b1 (N : Nat) (l : List Int) (K_ : Unit → Option Bool) (rec : Int → Option Bool) : Int → Option Bool := fun i =>
  br (decide (i < (l.length : Int))) (
  chk (0 ≤ i ∧ i < (l.length : Int)) <|
  chk (((l.getD i.toNat 0) != (0 : Int)) = true → 0 ≤ i ∧ i < (l.length : Int)) <|
  br ((((l.getD i.toNat 0) != (0 : Int)) && ((l.getD i.toNat 0) != (1 : Int)))) (
  some false) (
  rec (w64 (i + (1 : Int))))) (
  K_ ())
def base_AreBits (N : Nat) (l : List Int) : Option Bool :=
  jn (τ := Unit) (fun (_ : Unit) =>
    some true) fun K_ =>
  rds (base_AreBits.b1 N l K_) N (0 : Int)

def ref02_kindErr (N : Nat) (bits : List Int) : Option Int :=
  bnd (base_AreBits N bits) fun x1 =>
  br (!x1) (
  some (15 : Int)) (
  some (0 : Int))

def ref02_BitsErr (N : Nat) (bits : List Int) : Option Int :=
  br (((bits.length : Int) == (0 : Int))) (
  some (10 : Int)) (
  br (decide ((bits.length : Int) > (200 : Int))) (
  some (8 : Int)) (
  bnd (ref02_kindErr N bits) fun x1 =>
  some x1))

def ref02_Length (N : Nat) (c_Power : Int) (c_Info : List Int) : Option Int :=
  bnd (ref02_power N c_Power) fun x1 =>
  some x1

def base_CopyInts (N : Nat) (l : List Int) : Option (List Int) :=
  chk (([] : List Int).length + l.length ≤ 1000000000) <|
  some (([] : List Int) ++ l)

def ref02_CopyPolar (N : Nat) (c_Power : Int) (c_Info : List Int) : Option (Int × List Int) :=
  bnd (base_CopyInts N c_Info) fun x1 =>
  some (c_Power, x1)

def base_Mod (N : Nat) (n : Int) (by_ : Int) : Option Int :=
  chk (by_ ≠ 0) <|
  br (decide (n.tmod by_ < (0 : Int))) (
  some (w64 ((n.tmod by_) + by_))) (
  some (n.tmod by_))

def code_isLength (N : Nat) (n : Int) : Option Bool :=
  bnd (code_within N n (1 : Int) (200 : Int)) fun x1 =>
  some x1

def code_gathered.b1 (N : Nat) (soft : List Int) (version : Int) (length : Int) (K_ : List Int → Option (List Int)) (rec : Int × List Int → Option (List Int)) : Int × List Int → Option (List Int) := fun (t12, b11) =>
  br (decide (t12 < (soft.length : Int))) (
  chk (length ≠ 0) <|
  chk (0 ≤ (w64 ((w64 ((w64 (version * length)).tdiv (4 : Int))) + t12)).tmod length ∧ (w64 ((w64 ((w64 (version * length)).tdiv (4 : Int))) + t12)).tmod length < (b11.length : Int)) <|
  chk (0 ≤ t12 ∧ t12 < (soft.length : Int)) <|
  chk (0 ≤ (w64 ((w64 ((w64 (version * length)).tdiv (4 : Int))) + t12)).tmod length ∧ (w64 ((w64 ((w64 (version * length)).tdiv (4 : Int))) + t12)).tmod length < (b11.length : Int)) <|
  br (!true) (
  K_ (b11.set (((w64 ((w64 ((w64 (version * length)).tdiv (4 : Int))) + t12)).tmod length).toNat) (w64 ((b11.getD (((w64 ((w64 ((w64 (version * length)).tdiv (4 : Int))) + t12)).tmod length).toNat) 0) + (soft.getD t12.toNat 0))))) (
  rec (w64 (t12 + (1 : Int)), (b11.set (((w64 ((w64 ((w64 (version * length)).tdiv (4 : Int))) + t12)).tmod length).toNat) (w64 ((b11.getD (((w64 ((w64 ((w64 (version * length)).tdiv (4 : Int))) + t12)).tmod length).toNat) 0) + (soft.getD t12.toNat 0))))))) (
  K_ b11)
def code_gathered (N : Nat) (soft : List Int) (version : Int) (length : Int) : Option (List Int) :=
  chk (0 ≤ length ∧ length ≤ 1000000000) <|
  jn (τ := List Int) (fun (b1 : List Int) =>
    some b1) fun K_ =>
  rds (code_gathered.b1 N soft version length K_) N ((0 : Int), (List.replicate length.toNat (0 : Int)))

def code_sumsErr (N : Nat) (l : List Int) : Option Int :=
  bnd (code_listErr N l (200 : Int) (fun y0 => code_upTo_1 N y0 (1000000000 : Int)) (2 : Int)) fun x1 =>
  some x1

def code_isSum (N : Nat) (n : Int) : Option Bool :=
  bnd (code_upTo_1 N n (1000000000 : Int)) fun x1 =>
  some x1

def code_combined_1 (N : Nat) (n : Int) : Option Bool :=
  bnd (code_isSum N n) fun x1 =>
  some (!x1)

def code_combined.b1 (N : Nat) (a : List Int) (b : List Int) (K_ : List Int → Option (List Int × Int)) (rec : Int × List Int → Option (List Int × Int)) : Int × List Int → Option (List Int × Int) := fun (t11, b01) =>
  br (decide (t11 < (a.length : Int))) (
  chk (0 ≤ t11 ∧ t11 < (a.length : Int)) <|
  chk (0 ≤ t11 ∧ t11 < (b.length : Int)) <|
  chk (b01.length + ([w64 ((a.getD t11.toNat 0) + (b.getD t11.toNat 0))] : List Int).length ≤ 1000000000) <|
  rec (w64 (t11 + (1 : Int)), (b01 ++ ([w64 ((a.getD t11.toNat 0) + (b.getD t11.toNat 0))] : List Int)))) (
  K_ b01)
def code_combined (N : Nat) (a : List Int) (b : List Int) : Option (List Int × Int) :=
  jn (τ := List Int) (fun (b0 : List Int) =>
    bnd (slices_ContainsFunc_ii N b0 (fun y0 => code_combined_1 N y0)) fun x1 =>
    br (x1) (
    some (([] : List Int), (8 : Int))) (
    some (b0, (0 : Int)))) fun K_ =>
  rds (code_combined.b1 N a b K_) N ((0 : Int), ([] : List Int))

def ref02_CountErr (N : Nat) (n : Int) : Option Int :=
  bnd (base_Within N n (1 : Int) (400 : Int)) fun x1 =>
  br (!x1) (
  some (2 : Int)) (
  some (0 : Int))

def ref02_place (N : Nat) (length : Int) (version : Int) (number : Int) : Option Int :=
  chk (length ≠ 0) <|
  some ((w64 ((w64 ((w64 (version * length)).tdiv (4 : Int))) + number)).tmod length)

def ref02_Match.b1 (N : Nat) (word : List Int) (version : Int) (count : Int) (K_ : List Int → Option (List Int)) (rec : Int × List Int → Option (List Int)) : Int × List Int → Option (List Int) := fun (i, b01) =>
  br (decide (i < count)) (
  bnd (ref02_place N (word.length : Int) version i) fun x1 =>
  chk (0 ≤ x1 ∧ x1 < (word.length : Int)) <|
  chk (b01.length + ([(word.getD x1.toNat 0)] : List Int).length ≤ 1000000000) <|
  rec (w64 (i + (1 : Int)), (b01 ++ ([(word.getD x1.toNat 0)] : List Int)))) (
  K_ b01)
def ref02_Match (N : Nat) (word : List Int) (version : Int) (count : Int) : Option (List Int) :=
  jn (τ := List Int) (fun (b0 : List Int) =>
    some b0) fun K_ =>
  rds (ref02_Match.b1 N word version count K_) N ((0 : Int), ([] : List Int))

def ref02_sizedErr.b1 (N : Nat) (l : List Int) (size : Int) (K_ : Unit → Option Int) (rec : Int → Option Int) : Int → Option Int := fun i =>
  br (decide (i < (l.length : Int))) (
  chk (0 ≤ i ∧ i < (l.length : Int)) <|
  bnd (base_Within N (l.getD i.toNat 0) (w64 (0 - size)) size) fun x1 =>
  br (!x1) (
  some (2 : Int)) (
  rec (w64 (i + (1 : Int))))) (
  K_ ())
def ref02_sizedErr (N : Nat) (l : List Int) (count : Int) (size : Int) : Option Int :=
  br (((l.length : Int) == (0 : Int))) (
  some (10 : Int)) (
  br (decide ((l.length : Int) > count)) (
  some (8 : Int)) (
  jn (τ := Unit) (fun (_ : Unit) =>
    some (0 : Int)) fun K_ =>
  rds (ref02_sizedErr.b1 N l size K_) N (0 : Int)))

def ref02_LengthErr (N : Nat) (n : Int) : Option Int :=
  bnd (base_Within N n (1 : Int) (200 : Int)) fun x1 =>
  br (!x1) (
  some (2 : Int)) (
  some (0 : Int))

def ref02_SumsErr (N : Nat) (l : List Int) : Option Int :=
  bnd (ref02_sizedErr N l (200 : Int) (1000000000 : Int)) fun x1 =>
  some x1

def slices_Concat_ii.b1 (N : Nat) (slices : List (List Int)) (K_ : Int → Option (List Int)) (rec : Int × Int → Option (List Int)) : Int × Int → Option (List Int) := fun (size1, t11) =>
  br (decide (t11 < (slices.length : Int))) (
  chk (0 ≤ t11 ∧ t11 < (slices.length : Int)) <|
  br (decide (w64 (size1 + ((slices.getD t11.toNat default).length : Int)) < (0 : Int))) (
  none) (
  rec (w64 (size1 + ((slices.getD t11.toNat default).length : Int)), w64 (t11 + (1 : Int))))) (
  K_ size1)
def slices_Concat_ii.b2 (N : Nat) (slices : List (List Int)) (K_2 : List Int → Option (List Int)) (rec1 : Int × List Int → Option (List Int)) : Int × List Int → Option (List Int) := fun (t27, b01) =>
  br (decide (t27 < (slices.length : Int))) (
  chk (0 ≤ t27 ∧ t27 < (slices.length : Int)) <|
  chk (b01.length + (slices.getD t27.toNat default).length ≤ 1000000000) <|
  rec1 (w64 (t27 + (1 : Int)), (b01 ++ (slices.getD t27.toNat default)))) (
  K_2 b01)
def slices_Concat_ii.b3 (N : Nat) (slices : List (List Int)) (K_3 : List Int → Option (List Int)) (rec2 : Int × List Int → Option (List Int)) : Int × List Int → Option (List Int) := fun (t271, b03) =>
  br (decide (t271 < (slices.length : Int))) (
  chk (0 ≤ t271 ∧ t271 < (slices.length : Int)) <|
  chk (b03.length + (slices.getD t271.toNat default).length ≤ 1000000000) <|
  rec2 (w64 (t271 + (1 : Int)), (b03 ++ (slices.getD t271.toNat default)))) (
  K_3 b03)
def slices_Concat_ii (N : Nat) (slices : List (List Int)) : Option (List Int) :=
  jn (τ := Int) (fun (size : Int) =>
    jn (τ := Unit) (fun (_ : Unit) =>
      br (decide (w64 (size - (w64 ((0 : Int) - (0 : Int)))) > (0 : Int))) (
      chk (0 ≤ w64 (size - (w64 ((0 : Int) - (0 : Int)))) ∧ w64 (size - (w64 ((0 : Int) - (0 : Int)))) ≤ 1000000000) <|
      chk ((List.replicate ((w64 (size - (w64 ((0 : Int) - (0 : Int))))).toNat) (0 : Int)).length ≤ 1000000000) <|
      chk (0 ≤ (0 : Int) ∧ (0 : Int) ≤ (0 : Int) ∧ (0 : Int) ≤ ((List.replicate ((w64 (size - (w64 ((0 : Int) - (0 : Int))))).toNat) (0 : Int)).length : Int)) <|
      jn (τ := List Int) (fun (b0 : List Int) =>
        some b0) fun K_2 =>
      rds (slices_Concat_ii.b2 N slices K_2) N ((0 : Int), ([] : List Int))) (
      jn (τ := List Int) (fun (b02 : List Int) =>
        some b02) fun K_3 =>
      rds (slices_Concat_ii.b3 N slices K_3) N ((0 : Int), ([] : List Int)))) fun K_1 =>
    br (decide (size < (0 : Int))) (
    none) (
    K_1 ())) fun K_ =>
  rds (slices_Concat_ii.b1 N slices K_) N ((0 : Int), (0 : Int))

def code_checked (N : Nat) (p_Degree : Int) (p_Taps : Int) (bits : List Int) : Option (List Int) :=
  bnd (code_remainder N p_Degree p_Taps bits) fun x1 =>
  bnd (slices_Concat_ii N ([bits, x1] : List (List Int))) fun x2 =>
  some x2

def slices_Equal_ii.b1 (N : Nat) (s1 : List Int) (s2 : List Int) (K_ : Unit → Option Bool) (rec : Int → Option Bool) : Int → Option Bool := fun t13 =>
  br (decide (t13 < (s1.length : Int))) (
  chk (0 ≤ t13 ∧ t13 < (s1.length : Int)) <|
  chk (0 ≤ t13 ∧ t13 < (s2.length : Int)) <|
  br (((s1.getD t13.toNat 0) != (s2.getD t13.toNat 0))) (
  some false) (
  rec (w64 (t13 + (1 : Int))))) (
  K_ ())
def slices_Equal_ii (N : Nat) (s1 : List Int) (s2 : List Int) : Option Bool :=
  br (((s1.length : Int) != (s2.length : Int))) (
  some false) (
  jn (τ := Unit) (fun (_ : Unit) =>
    some true) fun K_ =>
  rds (slices_Equal_ii.b1 N s1 s2 K_) N (0 : Int))

def code_right (N : Nat) (p_Degree : Int) (p_Taps : Int) (bits : List Int) : Option Bool :=
  chk (0 ≤ (0 : Int) ∧ (0 : Int) ≤ w64 ((bits.length : Int) - p_Degree) ∧ w64 ((bits.length : Int) - p_Degree) ≤ (bits.length : Int)) <|
  bnd (code_remainder N p_Degree p_Taps (bits.take ((w64 ((bits.length : Int) - p_Degree)).toNat))) fun x1 =>
  chk (0 ≤ w64 ((bits.length : Int) - p_Degree) ∧ w64 ((bits.length : Int) - p_Degree) ≤ (bits.length : Int) ∧ (bits.length : Int) ≤ (bits.length : Int)) <|
  bnd (slices_Equal_ii N x1 ((bits.drop ((w64 ((bits.length : Int) - p_Degree)).toNat)).take (bits.length - (w64 ((bits.length : Int) - p_Degree)).toNat))) fun x2 =>
  some x2

def ref02_CheckPoly (N : Nat) (p_Degree : Int) (p_Taps : Int) : Option Int :=
  bnd (base_Within N p_Degree (1 : Int) (16 : Int)) fun x1 =>
  bnd (grd (!(!x1)) 0 (ref02_power N p_Degree)) fun x2 =>
  bnd (grd (!(!x1)) false (base_Within N p_Taps (1 : Int) (w64 (x2 - (1 : Int))))) fun x3 =>
  br (((!x1) || (!x3))) (
  some (2 : Int)) (
  br ((p_Taps.tmod (2 : Int) == (0 : Int))) (
  some (3 : Int)) (
  some (0 : Int)))

def base_BitsOf.b1 (N : Nat) (K_ : List Int → Option (List Int)) (rec : Int × Int × List Int → Option (List Int)) : Int × Int × List Int → Option (List Int) := fun (n1, i, b01) =>
  br (decide (i ≥ (0 : Int))) (
  chk (0 ≤ i ∧ i < (b01.length : Int)) <|
  rec (w64 (n1.tdiv (2 : Int)), w64 (i - (1 : Int)), (b01.set i.toNat (n1.tmod (2 : Int))))) (
  K_ b01)
def base_BitsOf (N : Nat) (n : Int) (count : Int) : Option (List Int) :=
  chk (0 ≤ count ∧ count ≤ 1000000000) <|
  jn (τ := List Int) (fun (b0 : List Int) =>
    some b0) fun K_ =>
  rds (base_BitsOf.b1 N K_) N (n, w64 (count - (1 : Int)), (List.replicate count.toNat (0 : Int)))

def ref02_Remainder.b2 (N : Nat) (p_Degree : Int) (x2 : List Int) (i : Int) (K_1 : List Int → Option (List Int)) (rec1 : Int × List Int → Option (List Int)) : Int × List Int → Option (List Int) := fun (k, b13) =>
  br (decide (k < p_Degree)) (
  chk (0 ≤ w64 ((w64 (i + (1 : Int))) + k) ∧ w64 ((w64 (i + (1 : Int))) + k) < (b13.length : Int)) <|
  chk (0 ≤ k ∧ k < (x2.length : Int)) <|
  chk (0 ≤ w64 ((w64 (i + (1 : Int))) + k) ∧ w64 ((w64 (i + (1 : Int))) + k) < (b13.length : Int)) <|
  rec1 (w64 (k + (1 : Int)), (b13.set ((w64 ((w64 (i + (1 : Int))) + k)).toNat) ((w64 ((b13.getD ((w64 ((w64 (i + (1 : Int))) + k)).toNat) 0) + (x2.getD k.toNat 0))).tmod (2 : Int))))) (
  K_1 b13)
def ref02_Remainder.b1 (N : Nat) (p_Degree : Int) (bits : List Int) (x2 : List Int) (K_ : List Int → Option (List Int)) (rec : Int × List Int → Option (List Int)) : Int × List Int → Option (List Int) := fun (i, b11) =>
  br (decide (i < (bits.length : Int))) (
  jn (τ := List Int) (fun (b12 : List Int) =>
    rec (w64 (i + (1 : Int)), b12)) fun K_1 =>
  chk (0 ≤ i ∧ i < (b11.length : Int)) <|
  br (((b11.getD i.toNat 0) == (0 : Int))) (
  K_1 b11) (
  rds (ref02_Remainder.b2 N p_Degree x2 i K_1) N ((0 : Int), b11))) (
  K_ b11)
def ref02_Remainder (N : Nat) (p_Degree : Int) (p_Taps : Int) (bits : List Int) : Option (List Int) :=
  bnd (base_CopyInts N bits) fun x1 =>
  chk (0 ≤ p_Degree ∧ p_Degree ≤ 1000000000) <|
  chk (x1.length + (List.replicate p_Degree.toNat (0 : Int)).length ≤ 1000000000) <|
  bnd (base_BitsOf N p_Taps p_Degree) fun x2 =>
  jn (τ := List Int) (fun (b1 : List Int) =>
    chk (0 ≤ (bits.length : Int) ∧ (bits.length : Int) ≤ (b1.length : Int) ∧ (b1.length : Int) ≤ (b1.length : Int)) <|
    some ((b1.drop ((bits.length : Int).toNat)).take (b1.length - (bits.length : Int).toNat))) fun K_ =>
  rds (ref02_Remainder.b1 N p_Degree bits x2 K_) N ((0 : Int), (x1 ++ (List.replicate p_Degree.toNat (0 : Int))))

def ref02_Checked (N : Nat) (p_Degree : Int) (p_Taps : Int) (bits : List Int) : Option (List Int) :=
  bnd (base_CopyInts N bits) fun x1 =>
  bnd (ref02_Remainder N p_Degree p_Taps bits) fun x2 =>
  chk (x1.length + x2.length ≤ 1000000000) <|
  some (x1 ++ x2)

def ref02_IsRight (N : Nat) (p_Degree : Int) (p_Taps : Int) (bits : List Int) : Option Bool :=
  chk (0 ≤ w64 ((bits.length : Int) - p_Degree) ∧ w64 ((bits.length : Int) - p_Degree) ≤ (bits.length : Int) ∧ (bits.length : Int) ≤ (bits.length : Int)) <|
  chk (0 ≤ (0 : Int) ∧ (0 : Int) ≤ w64 ((bits.length : Int) - p_Degree) ∧ w64 ((bits.length : Int) - p_Degree) ≤ (bits.length : Int)) <|
  bnd (ref02_Remainder N p_Degree p_Taps (bits.take ((w64 ((bits.length : Int) - p_Degree)).toNat))) fun x1 =>
  bnd (base_Ints N ((bits.drop ((w64 ((bits.length : Int) - p_Degree)).toNat)).take (bits.length - (w64 ((bits.length : Int) - p_Degree)).toNat)) x1) fun x2 =>
  some x2

def ref02_CopyChain (N : Nat) (c_Poly_Degree : Int) (c_Poly_Taps : Int) (c_Polar_Power : Int) (c_Polar_Info : List Int) (c_Count : Int) : Option (Int × Int × Int × List Int × Int) :=
  bnd (ref02_CopyPolar N c_Polar_Power c_Polar_Info) fun (x1, x11) =>
  some (c_Poly_Degree, c_Poly_Taps, x1, x11, c_Count)

def code_chainErr (N : Nat) (c_Poly_Degree : Int) (c_Poly_Taps : Int) (c_Polar_Power : Int) (c_Polar_Info : List Int) (c_Count : Int) : Option Int :=
  bnd (code_CheckPoly N c_Poly_Degree c_Poly_Taps) fun x1 =>
  bnd (code_CheckPolar N c_Polar_Power c_Polar_Info) fun x2 =>
  bnd (code_unless N (decide ((c_Polar_Info.length : Int) > c_Poly_Degree)) (10 : Int)) fun x3 =>
  bnd (code_isCount N c_Count) fun x4 =>
  bnd (code_unless N x4 (2 : Int)) fun x5 =>
  bnd (code_first N ([x1, x2, x3, x5] : List Int)) fun x6 =>
  some x6

def code_Sent (N : Nat) (c_Poly_Degree : Int) (c_Poly_Taps : Int) (c_Polar_Power : Int) (c_Polar_Info : List Int) (c_Count : Int) (info : List Int) (version : Int) : Option (List Int × Int) :=
  bnd (code_chainErr N c_Poly_Degree c_Poly_Taps c_Polar_Power c_Polar_Info c_Count) fun x1 =>
  bnd (code_bitsErr N info) fun x2 =>
  bnd (code_unless N (w64 ((info.length : Int) + c_Poly_Degree) == (c_Polar_Info.length : Int)) (10 : Int)) fun x3 =>
  bnd (code_isVersion N version) fun x4 =>
  bnd (code_unless N x4 (15 : Int)) fun x5 =>
  bnd (code_first N ([x1, x2, x3, x5] : List Int)) fun x6 =>
  br ((x6 != (0 : Int))) (
  some (([] : List Int), x6)) (
  bnd (code_checked N c_Poly_Degree c_Poly_Taps info) fun x7 =>
  bnd (code_encode N c_Polar_Power c_Polar_Info x7) fun x8 =>
  bnd (code_match N x8 version c_Count) fun x9 =>
  some (x9, (0 : Int)))

def ref02_ChainErr (N : Nat) (c_Poly_Degree : Int) (c_Poly_Taps : Int) (c_Polar_Power : Int) (c_Polar_Info : List Int) (c_Count : Int) : Option Int :=
  bnd (ref02_CheckPoly N c_Poly_Degree c_Poly_Taps) fun x1 =>
  br ((x1 != (0 : Int))) (
  some x1) (
  bnd (ref02_CheckPolar N c_Polar_Power c_Polar_Info) fun x2 =>
  br ((x2 != (0 : Int))) (
  some x2) (
  br (decide ((c_Polar_Info.length : Int) ≤ c_Poly_Degree)) (
  some (10 : Int)) (
  bnd (ref02_CountErr N c_Count) fun x3 =>
  some x3)))

def ref02_covers.b1 (N : Nat) (K_ : Unit → Option Bool) (rec : Int × Int → Option Bool) : Int × Int → Option Bool := fun (i1, j1) =>
  br (decide (j1 > (0 : Int))) (
  br (((j1.tmod (2 : Int) == (1 : Int)) && (i1.tmod (2 : Int) == (0 : Int)))) (
  some false) (
  rec (w64 (i1.tdiv (2 : Int)), w64 (j1.tdiv (2 : Int))))) (
  K_ ())
def ref02_covers (N : Nat) (i : Int) (j : Int) : Option Bool :=
  jn (τ := Unit) (fun (_ : Unit) =>
    some true) fun K_ =>
  rds (ref02_covers.b1 N K_) N (i, j)

def ref02_word.b2 (N : Nat) (u : List Int) (j : Int) (K_2 : Int → Option (List Int)) (rec1 : Int × Int → Option (List Int)) : Int × Int → Option (List Int) := fun (sum1, i) =>
  br (decide (i < (u.length : Int))) (
  bnd (ref02_covers N i j) fun x1 =>
  br (x1) (
  chk (0 ≤ i ∧ i < (u.length : Int)) <|
  rec1 (w64 (sum1 + (u.getD i.toNat 0)), w64 (i + (1 : Int)))) (
  rec1 (sum1, w64 (i + (1 : Int))))) (
  K_2 sum1)
def ref02_word.b1 (N : Nat) (u : List Int) (K_ : List Int → Option (List Int)) (rec : Int × List Int → Option (List Int)) : Int × List Int → Option (List Int) := fun (j, b01) =>
  br (decide (j < (u.length : Int))) (
  jn (τ := List Int) (fun (b02 : List Int) =>
    rec (w64 (j + (1 : Int)), b02)) fun K_1 =>
  jn (τ := Int) (fun (sum : Int) =>
    chk (b01.length + ([sum.tmod (2 : Int)] : List Int).length ≤ 1000000000) <|
    K_1 (b01 ++ ([sum.tmod (2 : Int)] : List Int))) fun K_2 =>
  rds (ref02_word.b2 N u j K_2) N ((0 : Int), (0 : Int))) (
  K_ b01)
def ref02_word (N : Nat) (u : List Int) : Option (List Int) :=
  jn (τ := List Int) (fun (b0 : List Int) =>
    some b0) fun K_ =>
  rds (ref02_word.b1 N u K_) N ((0 : Int), ([] : List Int))

def ref02_Encode.b1 (N : Nat) (c_Info : List Int) (bits : List Int) (K_ : List Int → Option (List Int)) (rec : Int × List Int → Option (List Int)) : Int × List Int → Option (List Int) := fun (i, b11) =>
  br (decide (i < (bits.length : Int))) (
  chk (0 ≤ i ∧ i < (c_Info.length : Int)) <|
  chk (0 ≤ i ∧ i < (bits.length : Int)) <|
  chk (0 ≤ (c_Info.getD i.toNat 0) ∧ (c_Info.getD i.toNat 0) < (b11.length : Int)) <|
  rec (w64 (i + (1 : Int)), (b11.set ((c_Info.getD i.toNat 0).toNat) (bits.getD i.toNat 0)))) (
  K_ b11)
def ref02_Encode (N : Nat) (c_Power : Int) (c_Info : List Int) (bits : List Int) : Option (List Int) :=
  bnd (ref02_power N c_Power) fun x1 =>
  chk (0 ≤ x1 ∧ x1 ≤ 1000000000) <|
  jn (τ := List Int) (fun (b1 : List Int) =>
    bnd (ref02_word N b1) fun x2 =>
    some x2) fun K_ =>
  rds (ref02_Encode.b1 N c_Info bits K_) N ((0 : Int), (List.replicate x1.toNat (0 : Int)))

def ref02_Sent (N : Nat) (c_Poly_Degree : Int) (c_Poly_Taps : Int) (c_Polar_Power : Int) (c_Polar_Info : List Int) (c_Count : Int) (bits : List Int) (version : Int) : Option (List Int) :=
  bnd (ref02_Checked N c_Poly_Degree c_Poly_Taps bits) fun x1 =>
  bnd (ref02_Encode N c_Polar_Power c_Polar_Info x1) fun x2 =>
  bnd (ref02_Match N x2 version c_Count) fun x3 =>
  some x3

def code_Recovered (N : Nat) (c_Poly_Degree : Int) (c_Poly_Taps : Int) (c_Polar_Power : Int) (c_Polar_Info : List Int) (c_Count : Int) (soft : List Int) : Option (List Int × Int) :=
  bnd (code_chainErr N c_Poly_Degree c_Poly_Taps c_Polar_Power c_Polar_Info c_Count) fun x1 =>
  bnd (code_sumsErr N soft) fun x2 =>
  bnd (code_first N ([x1, x2] : List Int)) fun x3 =>
  br ((x3 != (0 : Int))) (
  some (([] : List Int), x3)) (
  chk (0 ≤ c_Polar_Power) <|
  br (((soft.length : Int) != shlI (1 : Int) c_Polar_Power)) (
  some (([] : List Int), (10 : Int))) (
  bnd (code_decode N c_Polar_Power c_Polar_Info soft) fun x4 =>
  bnd (code_right N c_Poly_Degree c_Poly_Taps x4) fun x5 =>
  br (!x5) (
  some (([] : List Int), (21 : Int))) (
  chk (0 ≤ (0 : Int) ∧ (0 : Int) ≤ w64 ((x4.length : Int) - c_Poly_Degree) ∧ w64 ((x4.length : Int) - c_Poly_Degree) ≤ (x4.length : Int)) <|
  some ((x4.take ((w64 ((x4.length : Int) - c_Poly_Degree)).toNat)), (0 : Int)))))

def base_Has.b1 (N : Nat) (l : List Int) (n : Int) (K_ : Unit → Option Bool) (rec : Int → Option Bool) : Int → Option Bool := fun i =>
  br (decide (i < (l.length : Int))) (
  chk (0 ≤ i ∧ i < (l.length : Int)) <|
  br (((l.getD i.toNat 0) == n)) (
  some true) (
  rec (w64 (i + (1 : Int))))) (
  K_ ())
def base_Has (N : Nat) (l : List Int) (n : Int) : Option Bool :=
  jn (τ := Unit) (fun (_ : Unit) =>
    some false) fun K_ =>
  rds (base_Has.b1 N l n K_) N (0 : Int)

def ref02_sign (N : Nat) (n : Int) : Option Int :=
  some (if (if (-1 : Int) < n then n else (-1 : Int)) < (1 : Int) then (if (-1 : Int) < n then n else (-1 : Int)) else (1 : Int))

def base_Size (N : Nat) (n : Int) : Option Int :=
  some (if n < w64 (0 - n) then w64 (0 - n) else n)

def ref02_cancel.b1 (N : Nat) (soft : List Int) (K_ : List Int → Option (List Int)) (rec : Int × List Int → Option (List Int)) : Int × List Int → Option (List Int) := fun (k, b11) =>
  br (decide (k < w64 ((soft.length : Int).tdiv (2 : Int)))) (
  chk (0 ≤ k ∧ k < (soft.length : Int)) <|
  chk (0 ≤ w64 ((w64 ((soft.length : Int).tdiv (2 : Int))) + k) ∧ w64 ((w64 ((soft.length : Int).tdiv (2 : Int))) + k) < (soft.length : Int)) <|
  bnd (ref02_sign N (soft.getD k.toNat 0)) fun x2 =>
  bnd (ref02_sign N (soft.getD ((w64 ((w64 ((soft.length : Int).tdiv (2 : Int))) + k)).toNat) 0)) fun x3 =>
  bnd (base_Size N (soft.getD k.toNat 0)) fun x4 =>
  bnd (base_Size N (soft.getD ((w64 ((w64 ((soft.length : Int).tdiv (2 : Int))) + k)).toNat) 0)) fun x5 =>
  chk (b11.length + ([w64 ((w64 (x2 * x3)) * (if x5 < x4 then x5 else x4))] : List Int).length ≤ 1000000000) <|
  rec (w64 (k + (1 : Int)), (b11 ++ ([w64 ((w64 (x2 * x3)) * (if x5 < x4 then x5 else x4))] : List Int)))) (
  K_ b11)
def ref02_cancel.b2 (N : Nat) (soft : List Int) (x7 : List Int) (K_1 : List Int → Option (List Int)) (rec1 : Int × List Int → Option (List Int)) : Int × List Int → Option (List Int) := fun (k1, b41) =>
  br (decide (k1 < w64 ((soft.length : Int).tdiv (2 : Int)))) (
  chk (0 ≤ w64 ((w64 ((soft.length : Int).tdiv (2 : Int))) + k1) ∧ w64 ((w64 ((soft.length : Int).tdiv (2 : Int))) + k1) < (soft.length : Int)) <|
  chk (0 ≤ k1 ∧ k1 < (x7.length : Int)) <|
  chk (0 ≤ k1 ∧ k1 < (soft.length : Int)) <|
  chk (b41.length + ([w64 ((soft.getD ((w64 ((w64 ((soft.length : Int).tdiv (2 : Int))) + k1)).toNat) 0) + (w64 ((w64 ((1 : Int) - (w64 ((2 : Int) * (x7.getD k1.toNat 0))))) * (soft.getD k1.toNat 0))))] : List Int).length ≤ 1000000000) <|
  rec1 (w64 (k1 + (1 : Int)), (b41 ++ ([w64 ((soft.getD ((w64 ((w64 ((soft.length : Int).tdiv (2 : Int))) + k1)).toNat) 0) + (w64 ((w64 ((1 : Int) - (w64 ((2 : Int) * (x7.getD k1.toNat 0))))) * (soft.getD k1.toNat 0))))] : List Int)))) (
  K_1 b41)
def ref02_cancel.b (N : Nat)  (self_ : Int × List Int × Int × List Int → Option (List Int)) : Int × List Int × Int × List Int → Option (List Int) := fun (c_Power, c_Info, first, soft) =>
  br (((soft.length : Int) == (1 : Int))) (
  bnd (base_Has N c_Info first) fun x1 =>
  chk (x1 = true → 0 ≤ (0 : Int) ∧ (0 : Int) < (soft.length : Int)) <|
  br ((x1 && (decide ((soft.getD 0 0) < (0 : Int))))) (
  some ([(1 : Int)] : List Int)) (
  some ([(0 : Int)] : List Int))) (
  jn (τ := List Int) (fun (b1 : List Int) =>
    bnd (self_ (c_Power, c_Info, first, b1)) fun x6 =>
    bnd (ref02_word N x6) fun x7 =>
    jn (τ := List Int) (fun (b4 : List Int) =>
      bnd (self_ (c_Power, c_Info, w64 (first + (w64 ((soft.length : Int).tdiv (2 : Int)))), b4)) fun x8 =>
      chk (x6.length + x8.length ≤ 1000000000) <|
      some (x6 ++ x8)) fun K_1 =>
    rds (ref02_cancel.b2 N soft x7 K_1) N ((0 : Int), ([] : List Int))) fun K_ =>
  rds (ref02_cancel.b1 N soft K_) N ((0 : Int), ([] : List Int)))
def ref02_cancel (N : Nat) (c_Power : Int) (c_Info : List Int) (first : Int) (soft : List Int) : Option (List Int) := rds (ref02_cancel.b N ) N (c_Power, c_Info, first, soft)

def ref02_Decode.b1 (N : Nat) (c_Info : List Int) (x1 : List Int) (K_ : List Int → Option (List Int)) (rec : Int × List Int → Option (List Int)) : Int × List Int → Option (List Int) := fun (i, b21) =>
  br (decide (i < (c_Info.length : Int))) (
  chk (0 ≤ i ∧ i < (c_Info.length : Int)) <|
  chk (0 ≤ (c_Info.getD i.toNat 0) ∧ (c_Info.getD i.toNat 0) < (x1.length : Int)) <|
  chk (b21.length + ([(x1.getD ((c_Info.getD i.toNat 0).toNat) 0)] : List Int).length ≤ 1000000000) <|
  rec (w64 (i + (1 : Int)), (b21 ++ ([(x1.getD ((c_Info.getD i.toNat 0).toNat) 0)] : List Int)))) (
  K_ b21)
def ref02_Decode (N : Nat) (c_Power : Int) (c_Info : List Int) (soft : List Int) : Option (List Int) :=
  bnd (ref02_cancel N c_Power c_Info (0 : Int) soft) fun x1 =>
  jn (τ := List Int) (fun (b2 : List Int) =>
    some b2) fun K_ =>
  rds (ref02_Decode.b1 N c_Info x1 K_) N ((0 : Int), ([] : List Int))

def ref02_Recovered (N : Nat) (c_Poly_Degree : Int) (c_Poly_Taps : Int) (c_Polar_Power : Int) (c_Polar_Info : List Int) (c_Count : Int) (soft : List Int) : Option (List Int × Int) :=
  bnd (ref02_Decode N c_Polar_Power c_Polar_Info soft) fun x1 =>
  bnd (ref02_IsRight N c_Poly_Degree c_Poly_Taps x1) fun x2 =>
  br (!x2) (
  some (([] : List Int), (21 : Int))) (
  chk (0 ≤ (0 : Int) ∧ (0 : Int) ≤ w64 ((x1.length : Int) - c_Poly_Degree) ∧ w64 ((x1.length : Int) - c_Poly_Degree) ≤ (x1.length : Int)) <|
  some ((x1.take ((w64 ((x1.length : Int) - c_Poly_Degree)).toNat)), (0 : Int)))

def code_Begin.b1 (N : Nat) (length : Int) (count : Int) (K_ : (List (Int × Int × List Int)) → Option (Int × (List (Int × Int × List Int)) × Int)) (rec : Int × (List (Int × Int × List Int)) → Option (Int × (List (Int × Int × List Int)) × Int)) : Int × (List (Int × Int × List Int)) → Option (Int × (List (Int × Int × List Int)) × Int) := fun (t19, b21) =>
  br (decide (t19 < count)) (
  chk (0 ≤ length ∧ length ≤ 1000000000) <|
  chk (b21.length + ([((-1 : Int), (0 : Int), (List.replicate length.toNat (0 : Int)))] : List (Int × Int × List Int)).length ≤ 1000000000) <|
  rec (w64 (t19 + (1 : Int)), (b21 ++ ([((-1 : Int), (0 : Int), (List.replicate length.toNat (0 : Int)))] : List (Int × Int × List Int))))) (
  K_ b21)
def code_Begin (N : Nat) (length : Int) (count : Int) : Option (Int × (List (Int × Int × List Int)) × Int) :=
  bnd (code_isLength N length) fun x1 =>
  bnd (grd (!(!x1)) false (code_within N count (1 : Int) (8 : Int))) fun x2 =>
  br (((!x1) || (!x2))) (
  some ((0 : Int), ([] : List (Int × Int × List Int)), (2 : Int))) (
  jn (τ := (List (Int × Int × List Int))) (fun (b2 : (List (Int × Int × List Int))) =>
    some (length, b2, (0 : Int))) fun K_ =>
  rds (code_Begin.b1 N length count K_) N ((0 : Int), ([] : List (Int × Int × List Int))))

def ref02_CopyBuffers.b1 (N : Nat) (b_Processes : List (Int × Int × List Int)) (K_ : (List (Int × Int × List Int)) → Option (Int × (List (Int × Int × List Int)))) (rec : Int × (List (Int × Int × List Int)) → Option (Int × (List (Int × Int × List Int)))) : Int × (List (Int × Int × List Int)) → Option (Int × (List (Int × Int × List Int))) := fun (i, b31) =>
  br (decide (i < (b_Processes.length : Int))) (
  chk (0 ≤ i ∧ i < (b_Processes.length : Int)) <|
  bnd (base_CopyInts N ((b_Processes.getD i.toNat default).2.2)) fun x1 =>
  chk (b31.length + ([((b_Processes.getD i.toNat default).1, (b_Processes.getD i.toNat default).2.1, x1)] : List (Int × Int × List Int)).length ≤ 1000000000) <|
  rec (w64 (i + (1 : Int)), (b31 ++ ([((b_Processes.getD i.toNat default).1, (b_Processes.getD i.toNat default).2.1, x1)] : List (Int × Int × List Int))))) (
  K_ b31)
def ref02_CopyBuffers (N : Nat) (b_Length : Int) (b_Processes : List (Int × Int × List Int)) : Option (Int × (List (Int × Int × List Int))) :=
  jn (τ := (List (Int × Int × List Int))) (fun (b3 : (List (Int × Int × List Int))) =>
    some (b_Length, b3)) fun K_ =>
  rds (ref02_CopyBuffers.b1 N b_Processes K_) N ((0 : Int), ([] : List (Int × Int × List Int)))

def code_processErr_1 (N : Nat) (n : Int) : Option Bool :=
  bnd (code_isSum N n) fun x1 =>
  some (!x1)

def code_processErr_2 (N : Nat) (n : Int) : Option Bool :=
  some (n != (0 : Int))

def code_processErr (N : Nat) (p_Toggle : Int) (p_Count : Int) (p_Soft : List Int) (length : Int) : Option Int :=
  bnd (code_within N p_Toggle (-1 : Int) (1 : Int)) fun x1 =>
  bnd (grd x1 false (code_within N p_Count (0 : Int) (1000000000 : Int))) fun x2 =>
  bnd (code_unless N (x1 && x2) (2 : Int)) fun x3 =>
  bnd (code_unless N ((p_Toggle == (-1 : Int)) == (p_Count == (0 : Int))) (22 : Int)) fun x4 =>
  bnd (code_unless N ((p_Soft.length : Int) == length) (10 : Int)) fun x5 =>
  bnd (slices_ContainsFunc_ii N p_Soft (fun y0 => code_processErr_1 N y0)) fun x6 =>
  bnd (code_unless N (!x6) (2 : Int)) fun x7 =>
  bnd (grd (!(!(p_Count == (0 : Int)))) false (slices_ContainsFunc_ii N p_Soft (fun y0 => code_processErr_2 N y0))) fun x8 =>
  bnd (code_unless N ((!(p_Count == (0 : Int))) || (!x8)) (22 : Int)) fun x9 =>
  bnd (code_first N ([x3, x4, x5, x7, x9] : List Int)) fun x10 =>
  some x10

def code_buffersErr.b1 (N : Nat) (b_Length : Int) (b_Processes : List (Int × Int × List Int)) (K_ : Unit → Option Int) (rec : Int → Option Int) : Int → Option Int := fun t29 =>
  br (decide (t29 < (b_Processes.length : Int))) (
  chk (0 ≤ t29 ∧ t29 < (b_Processes.length : Int)) <|
  bnd (code_processErr N ((b_Processes.getD t29.toNat default).1) ((b_Processes.getD t29.toNat default).2.1) ((b_Processes.getD t29.toNat default).2.2) b_Length) fun x6 =>
  br ((x6 != (0 : Int))) (
  some x6) (
  rec (w64 (t29 + (1 : Int))))) (
  K_ ())
def code_buffersErr (N : Nat) (b_Length : Int) (b_Processes : List (Int × Int × List Int)) : Option Int :=
  bnd (code_isLength N b_Length) fun x1 =>
  bnd (code_unless N x1 (2 : Int)) fun x2 =>
  bnd (code_unless N (decide ((b_Processes.length : Int) > (0 : Int))) (10 : Int)) fun x3 =>
  bnd (code_unless N (decide ((b_Processes.length : Int) ≤ (8 : Int))) (8 : Int)) fun x4 =>
  bnd (code_first N ([x2, x3, x4] : List Int)) fun x5 =>
  br ((x5 != (0 : Int))) (
  some x5) (
  jn (τ := Unit) (fun (_ : Unit) =>
    some (0 : Int)) fun K_ =>
  rds (code_buffersErr.b1 N b_Length b_Processes K_) N (0 : Int))

def code_Receive.b1 (N : Nat) (b_Processes : List (Int × Int × List Int)) (x_Process : Int) (x_Toggle : Int) (b4 : Int) (b41 : List Int) (K_1 : (List (Int × Int × List Int)) → Option (Int × (List (Int × Int × List Int)) × Int)) (rec : Int × (List (Int × Int × List Int)) → Option (Int × (List (Int × Int × List Int)) × Int)) : Int × (List (Int × Int × List Int)) → Option (Int × (List (Int × Int × List Int)) × Int) := fun (t90, b61) =>
  br (decide (t90 < (b_Processes.length : Int))) (
  chk (0 ≤ t90 ∧ t90 < (b_Processes.length : Int)) <|
  jn (τ := Int × Int × List Int) (fun (b7, b71, b72) =>
    bnd (slices_Clone_ii N b72) fun x14 =>
    chk (b61.length + ([(b7, b71, x14)] : List (Int × Int × List Int)).length ≤ 1000000000) <|
    rec (w64 (t90 + (1 : Int)), (b61 ++ ([(b7, b71, x14)] : List (Int × Int × List Int))))) fun K_2 =>
  br ((t90 == x_Process)) (
  K_2 (x_Toggle, b4, b41)) (
  K_2 ((b_Processes.getD t90.toNat default).1, (b_Processes.getD t90.toNat default).2.1, (b_Processes.getD t90.toNat default).2.2))) (
  K_1 b61)
def code_Receive (N : Nat) (b_Length : Int) (b_Processes : List (Int × Int × List Int)) (x_Process : Int) (x_Toggle : Int) (x_Version : Int) (x_Soft : List Int) : Option (Int × (List (Int × Int × List Int)) × Int) :=
  bnd (code_buffersErr N b_Length b_Processes) fun x1 =>
  bnd (code_within N x_Process (0 : Int) (w64 ((b_Processes.length : Int) - (1 : Int)))) fun x2 =>
  bnd (code_unless N x2 (6 : Int)) fun x3 =>
  bnd (code_isBit N x_Toggle) fun x4 =>
  bnd (code_unless N x4 (15 : Int)) fun x5 =>
  bnd (code_isVersion N x_Version) fun x6 =>
  bnd (code_unless N x6 (15 : Int)) fun x7 =>
  bnd (code_softErr N x_Soft) fun x8 =>
  bnd (code_first N ([x1, x3, x5, x7, x8] : List Int)) fun x9 =>
  br ((x9 != (0 : Int))) (
  some ((0 : Int), ([] : List (Int × Int × List Int)), x9)) (
  bnd (code_gathered N x_Soft x_Version b_Length) fun x10 =>
  jn (τ := Int × List Int) (fun (b4, b41) =>
    jn (τ := (List (Int × Int × List Int))) (fun (b6 : (List (Int × Int × List Int))) =>
      some (b_Length, b6, (0 : Int))) fun K_1 =>
    rds (code_Receive.b1 N b_Processes x_Process x_Toggle b4 b41 K_1) N ((0 : Int), ([] : List (Int × Int × List Int)))) fun K_ =>
  chk (0 ≤ x_Process ∧ x_Process < (b_Processes.length : Int)) <|
  br (((b_Processes.getD x_Process.toNat default).1 == x_Toggle)) (
  bnd (code_combined N ((b_Processes.getD x_Process.toNat default).2.2) x10) fun (x11, x111) =>
  bnd (code_unless N (decide (w64 (((b_Processes.getD x_Process.toNat default).2.1) + (1 : Int)) ≤ (1000000000 : Int))) (8 : Int)) fun x12 =>
  bnd (code_first N ([x111, x12] : List Int)) fun x13 =>
  br ((x13 != (0 : Int))) (
  some ((0 : Int), ([] : List (Int × Int × List Int)), x13)) (
  K_ (w64 (((b_Processes.getD x_Process.toNat default).2.1) + (1 : Int)), x11))) (
  K_ ((1 : Int), x10)))

def ref02_BuffersErr.b1 (N : Nat) (b_Length : Int) (b_Processes : List (Int × Int × List Int)) (K_ : Unit → Option Int) (rec : Int → Option Int) : Int → Option Int := fun i =>
  br (decide (i < (b_Processes.length : Int))) (
  chk (0 ≤ i ∧ i < (b_Processes.length : Int)) <|
  bnd (base_Within N ((b_Processes.getD i.toNat default).1) (-1 : Int) (1 : Int)) fun x2 =>
  bnd (grd (!(!x2)) false (base_Within N ((b_Processes.getD i.toNat default).2.1) (0 : Int) (1000000000 : Int))) fun x3 =>
  br (((!x2) || (!x3))) (
  some (2 : Int)) (
  br ((((b_Processes.getD i.toNat default).1 == (-1 : Int)) != ((b_Processes.getD i.toNat default).2.1 == (0 : Int)))) (
  some (22 : Int)) (
  br (((((b_Processes.getD i.toNat default).2.2).length : Int) != b_Length)) (
  some (10 : Int)) (
  bnd (ref02_SumsErr N ((b_Processes.getD i.toNat default).2.2)) fun x4 =>
  br ((x4 != (0 : Int))) (
  some x4) (
  chk (((b_Processes.getD i.toNat default).2.1 == (0 : Int)) = true → 0 ≤ b_Length ∧ b_Length ≤ 1000000000) <|
  bnd (grd ((b_Processes.getD i.toNat default).2.1 == (0 : Int)) false (base_Ints N ((b_Processes.getD i.toNat default).2.2) (List.replicate b_Length.toNat (0 : Int)))) fun x5 =>
  br ((((b_Processes.getD i.toNat default).2.1 == (0 : Int)) && (!x5))) (
  some (22 : Int)) (
  rec (w64 (i + (1 : Int))))))))) (
  K_ ())
def ref02_BuffersErr (N : Nat) (b_Length : Int) (b_Processes : List (Int × Int × List Int)) : Option Int :=
  bnd (ref02_LengthErr N b_Length) fun x1 =>
  br ((x1 != (0 : Int))) (
  some x1) (
  br (((b_Processes.length : Int) == (0 : Int))) (
  some (10 : Int)) (
  br (decide ((b_Processes.length : Int) > (8 : Int))) (
  some (8 : Int)) (
  jn (τ := Unit) (fun (_ : Unit) =>
    some (0 : Int)) fun K_ =>
  rds (ref02_BuffersErr.b1 N b_Length b_Processes K_) N (0 : Int))))

def top_coded (N : Nat)  : Option Bool :=
  bnd (code_Remainder N (3 : Int) (3 : Int) ([(1 : Int)] : List Int)) fun (x1, x11) =>
  bnd (code_Decode N (2 : Int) ([(1 : Int), (2 : Int), (3 : Int)] : List Int) ([(4 : Int), (3 : Int), (-2 : Int), (-5 : Int)] : List Int)) fun (x2, x21) =>
  bnd (grd (x11 == (0 : Int)) false (base_Ints N x1 ([(0 : Int), (1 : Int), (1 : Int)] : List Int))) fun x3 =>
  bnd (grd (((x11 == (0 : Int)) && x3) && (x21 == (0 : Int))) false (base_Ints N x2 ([(1 : Int), (0 : Int), (1 : Int)] : List Int))) fun x4 =>
  some ((((x11 == (0 : Int)) && x3) && (x21 == (0 : Int))) && x4)

def top_codeRight (N : Nat) (c_Poly_Degree : Int) (c_Poly_Taps : Int) (c_Polar_Power : Int) (c_Polar_Info : List Int) (c_Count : Int) (bits : List Int) : Option Bool :=
  bnd (grd (decide ((c_Polar_Info.length : Int) ≤ (66 : Int))) 0 (ref02_ChainErr N c_Poly_Degree c_Poly_Taps c_Polar_Power c_Polar_Info c_Count)) fun x1 =>
  bnd (grd (((decide ((c_Polar_Info.length : Int) ≤ (66 : Int))) && (x1 == (0 : Int))) && (decide (c_Count ≤ (80 : Int)))) 0 (ref02_BitsErr N bits)) fun x2 =>
  some (((((decide ((c_Polar_Info.length : Int) ≤ (66 : Int))) && (x1 == (0 : Int))) && (decide (c_Count ≤ (80 : Int)))) && (x2 == (0 : Int))) && (w64 ((bits.length : Int) + c_Poly_Degree) == (c_Polar_Info.length : Int)))

def top_codeSoft.b1 (N : Nat) (bits : List Int) (sizes : List Int) (K_ : List Int → Option (List Int)) (rec : Int × List Int → Option (List Int)) : Int × List Int → Option (List Int) := fun (i, b01) =>
  br (decide (i < (bits.length : Int))) (
  br (decide ((sizes.length : Int) > (0 : Int))) (
  chk ((sizes.length : Int) ≠ 0) <|
  chk (0 ≤ i.tmod (sizes.length : Int) ∧ i.tmod (sizes.length : Int) < (sizes.length : Int)) <|
  bnd (base_Mod N (sizes.getD ((i.tmod (sizes.length : Int)).toNat) 0) (1000 : Int)) fun x1 =>
  chk (0 ≤ i ∧ i < (bits.length : Int)) <|
  bnd (base_Mod N (bits.getD i.toNat 0) (2 : Int)) fun x2 =>
  chk (b01.length + ([w64 ((w64 ((1 : Int) - (w64 ((2 : Int) * x2)))) * (w64 ((1 : Int) + x1)))] : List Int).length ≤ 1000000000) <|
  rec (w64 (i + (1 : Int)), (b01 ++ ([w64 ((w64 ((1 : Int) - (w64 ((2 : Int) * x2)))) * (w64 ((1 : Int) + x1)))] : List Int)))) (
  chk (0 ≤ i ∧ i < (bits.length : Int)) <|
  bnd (base_Mod N (bits.getD i.toNat 0) (2 : Int)) fun x3 =>
  chk (b01.length + ([w64 ((w64 ((1 : Int) - (w64 ((2 : Int) * x3)))) * (1 : Int))] : List Int).length ≤ 1000000000) <|
  rec (w64 (i + (1 : Int)), (b01 ++ ([w64 ((w64 ((1 : Int) - (w64 ((2 : Int) * x3)))) * (1 : Int))] : List Int))))) (
  K_ b01)
def top_codeSoft (N : Nat) (bits : List Int) (sizes : List Int) : Option (List Int) :=
  jn (τ := List Int) (fun (b0 : List Int) =>
    some b0) fun K_ =>
  rds (top_codeSoft.b1 N bits sizes K_) N ((0 : Int), ([] : List Int))

def top_TopCodeRecovered.b2 (N : Nat) (c_Count : Int) (x3 : Int) (K_1 : Int × (List (Int × Int × List Int)) × List Int → Option Bool) (x6 : Int) (x13 : Int) (x131 : List (Int × Int × List Int)) (rec1 : Int × List Int → Option Bool) : Int × List Int → Option Bool := fun (k, b33) =>
  br (decide (k < c_Count)) (
  chk (x3 ≠ 0) <|
  chk (0 ≤ (w64 ((w64 ((w64 (x6 * x3)).tdiv (4 : Int))) + k)).tmod x3 ∧ (w64 ((w64 ((w64 (x6 * x3)).tdiv (4 : Int))) + k)).tmod x3 < (b33.length : Int)) <|
  rec1 (w64 (k + (1 : Int)), (b33.set (((w64 ((w64 ((w64 (x6 * x3)).tdiv (4 : Int))) + k)).tmod x3).toNat) (1 : Int)))) (
  K_1 (x13, x131, b33))
def top_TopCodeRecovered.b1 (N : Nat) (c_Poly_Degree : Int) (c_Poly_Taps : Int) (c_Polar_Power : Int) (c_Polar_Info : List Int) (c_Count : Int) (bits : List Int) (x_Versions : List Int) (x_Sizes : List Int) (x3 : Int) (K_ : Int × (List (Int × Int × List Int)) × List Int → Option Bool) (rec : Int × Int × (List (Int × Int × List Int)) × List Int → Option Bool) : Int × Int × (List (Int × Int × List Int)) × List Int → Option Bool := fun (i, b22, b23, b31) =>
  br (decide (i < (x_Versions.length : Int))) (
  jn (τ := Int × (List (Int × Int × List Int)) × List Int) (fun (b24, b25, b32) =>
    rec (w64 (i + (1 : Int)), b24, b25, b32)) fun K_1 =>
  chk (0 ≤ i ∧ i < (x_Versions.length : Int)) <|
  bnd (base_Mod N (x_Versions.getD i.toNat 0) (4 : Int)) fun x6 =>
  bnd (ref02_CopyChain N c_Poly_Degree c_Poly_Taps c_Polar_Power c_Polar_Info c_Count) fun (x7, x71, x72, x73, x74) =>
  bnd (base_CopyInts N bits) fun x8 =>
  bnd (code_Sent N x7 x71 x72 x73 x74 x8 x6) fun (x9, x91) =>
  bnd (grd (!((x91 != (0 : Int)) || ((x9.length : Int) != c_Count))) false (base_AreBits N x9)) fun x10 =>
  br ((((x91 != (0 : Int)) || ((x9.length : Int) != c_Count)) || (!x10))) (
  some false) (
  bnd (ref02_CopyBuffers N b22 b23) fun (x11, x111) =>
  bnd (top_codeSoft N x9 x_Sizes) fun x12 =>
  bnd (code_Receive N x11 x111 (0 : Int) (0 : Int) x6 x12) fun (x13, x131, x132) =>
  bnd (grd (!(x132 != (0 : Int))) 0 (ref02_BuffersErr N x13 x131)) fun x14 =>
  br (((((x132 != (0 : Int)) || (x14 != (0 : Int))) || ((x131.length : Int) != (1 : Int))) || (x13 != x3))) (
  some false) (
  rds (top_TopCodeRecovered.b2 N c_Count x3 K_1 x6 x13 x131) N ((0 : Int), b31)))) (
  K_ (b22, b23, b31))
def top_TopCodeRecovered (N : Nat) (c_Poly_Degree : Int) (c_Poly_Taps : Int) (c_Polar_Power : Int) (c_Polar_Info : List Int) (c_Count : Int) (bits : List Int) (x_Versions : List Int) (x_Sizes : List Int) : Option Bool :=
  bnd (top_coded N ) fun x1 =>
  br (!x1) (
  some false) (
  bnd (top_codeRight N c_Poly_Degree c_Poly_Taps c_Polar_Power c_Polar_Info c_Count bits) fun x2 =>
  br ((((!x2) || ((x_Versions.length : Int) == (0 : Int))) || (decide ((x_Versions.length : Int) > (6 : Int))))) (
  some true) (
  bnd (ref02_Length N c_Polar_Power c_Polar_Info) fun x3 =>
  bnd (code_Begin N x3 (1 : Int)) fun (x4, x41, x42) =>
  bnd (grd (!(x42 != (0 : Int))) 0 (ref02_BuffersErr N x4 x41)) fun x5 =>
  br ((((x42 != (0 : Int)) || (x5 != (0 : Int))) || ((x41.length : Int) != (1 : Int)))) (
  some false) (
  chk (0 ≤ x3 ∧ x3 ≤ 1000000000) <|
  jn (τ := Int × (List (Int × Int × List Int)) × List Int) (fun (b2, b21, b3) =>
    bnd (base_Has N b3 (0 : Int)) fun x15 =>
    br (x15) (
    some true) (
    bnd (ref02_CopyChain N c_Poly_Degree c_Poly_Taps c_Polar_Power c_Polar_Info c_Count) fun (x16, x161, x162, x163, x164) =>
    chk (0 ≤ (0 : Int) ∧ (0 : Int) < (b21.length : Int)) <|
    bnd (base_CopyInts N ((b21.getD 0 default).2.2)) fun x17 =>
    bnd (code_Recovered N x16 x161 x162 x163 x164 x17) fun (x18, x181) =>
    bnd (grd (x181 == (0 : Int)) false (base_Ints N x18 bits)) fun x19 =>
    some ((x181 == (0 : Int)) && x19))) fun K_ =>
  rds (top_TopCodeRecovered.b1 N c_Poly_Degree c_Poly_Taps c_Polar_Power c_Polar_Info c_Count bits x_Versions x_Sizes x3 K_) N ((0 : Int), x4, x41, (List.replicate x3.toNat (0 : Int))))))
end
end Go.Sh
