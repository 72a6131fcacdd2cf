import Derived.Test.YtikelkndldaejaaCsH
set_option linter.all false
namespace Go.Sh
open Go.PW
noncomputable section
def law02_Poly (N : Nat)  : Option (Int × Int) :=
  some ((3 : Int), (3 : Int))

def code_within (N : Nat) (n : Int) (lo : Int) (hi : Int) : Option Bool :=
  some ((decide (lo ≤ n)) && (decide (n ≤ hi)))

def code_unless (N : Nat) (is_ : Bool) (e : Int) : Option Int :=
  br (is_) (
  some (0 : Int)) (
  some e)

def code_first.b1 (N : Nat) (l : List Int) (K_ : Unit → Option Int) (rec : Int → Option Int) : Int → Option Int := fun t7 =>
  br (decide (t7 < (l.length : Int))) (
  chk (0 ≤ t7 ∧ t7 < (l.length : Int)) <|
  br (((l.getD t7.toNat 0) != (0 : Int))) (
  some (l.getD t7.toNat 0)) (
  rec (w64 (t7 + (1 : Int))))) (
  K_ ())
def code_first (N : Nat) (l : List Int) : Option Int :=
  jn (τ := Unit) (fun (_ : Unit) =>
    some (0 : Int)) fun K_ =>
  rds (code_first.b1 N l K_) N (0 : Int)

def code_CheckPoly (N : Nat) (p_Degree : Int) (p_Taps : Int) : Option Int :=
  bnd (code_within N p_Degree (1 : Int) (16 : Int)) fun x1 =>
  br (!x1) (
  some (2 : Int)) (
  chk (0 ≤ p_Degree) <|
  bnd (code_within N p_Taps (1 : Int) (w64 ((shlI (1 : Int) p_Degree) - (1 : Int)))) fun x2 =>
  bnd (code_unless N x2 (2 : Int)) fun x3 =>
  bnd (code_unless N (p_Taps.tmod (2 : Int) == (1 : Int)) (3 : Int)) fun x4 =>
  bnd (code_first N ([x3, x4] : List Int)) fun x5 =>
  some x5)

def code_listErr_1 (N : Nat) (n : Int) (a1 : Int → Option Bool) : Option Bool :=
  bnd (a1 n) fun x1 =>
  some (!x1)

def slices_IndexFunc_ii.b1 (N : Nat) (s : List Int) (f : Int → Option Bool) (K_ : Unit → Option Int) (rec : Int → Option Int) : Int → Option Int := fun t8 =>
  br (decide (t8 < (s.length : Int))) (
  chk (0 ≤ t8 ∧ t8 < (s.length : Int)) <|
  bnd (f (s.getD t8.toNat 0)) fun x1 =>
  br (x1) (
  some t8) (
  rec (w64 (t8 + (1 : Int))))) (
  K_ ())
def slices_IndexFunc_ii (N : Nat) (s : List Int) (f : Int → Option Bool) : Option Int :=
  jn (τ := Unit) (fun (_ : Unit) =>
    some (-1 : Int)) fun K_ =>
  rds (slices_IndexFunc_ii.b1 N s f K_) N (0 : Int)

def slices_ContainsFunc_ii (N : Nat) (s : List Int) (f : Int → Option Bool) : Option Bool :=
  bnd (slices_IndexFunc_ii N s f) fun x1 =>
  some (decide (x1 ≥ (0 : Int)))

def code_listErr (N : Nat) (l : List Int) (most : Int) (right : Int → Option Bool) (e : Int) : Option Int :=
  bnd (slices_ContainsFunc_ii N l (fun y0 => code_listErr_1 N y0 right)) fun x1 =>
  bnd (code_unless N (decide ((l.length : Int) > (0 : Int))) (10 : Int)) fun x2 =>
  bnd (code_unless N (decide ((l.length : Int) ≤ most)) (8 : Int)) fun x3 =>
  bnd (code_unless N (!x1) e) fun x4 =>
  bnd (code_first N ([x2, x3, x4] : List Int)) fun x5 =>
  some x5

def code_isBit (N : Nat) (n : Int) : Option Bool :=
  some ((n == (0 : Int)) || (n == (1 : Int)))

def code_bitsErr (N : Nat) (l : List Int) : Option Int :=
  bnd (code_listErr N l (200 : Int) (fun y0 => code_isBit N y0) (15 : Int)) fun x1 =>
  some x1

def code_remainder.b1 (N : Nat) (p_Degree : Int) (p_Taps : Int) (bits : List Int) (K_ : Int → Option (List Int)) (rec : Int × Int → Option (List Int)) : Int × Int → Option (List Int) := fun (register1, t18) =>
  br (decide (t18 < (bits.length : Int))) (
  chk (0 ≤ t18 ∧ t18 < (bits.length : Int)) <|
  br (((andI register1 (shlI (1 : Int) (w64 (p_Degree - (1 : Int)))) != (0 : Int)) != ((bits.getD t18.toNat 0) == (1 : Int)))) (
  rec (xorI (andI (shlI register1 (1 : Int)) (w64 ((w64 ((2 : Int) * (shlI (1 : Int) (w64 (p_Degree - (1 : Int)))))) - (1 : Int)))) p_Taps, w64 (t18 + (1 : Int)))) (
  rec (andI (shlI register1 (1 : Int)) (w64 ((w64 ((2 : Int) * (shlI (1 : Int) (w64 (p_Degree - (1 : Int)))))) - (1 : Int))), w64 (t18 + (1 : Int))))) (
  K_ register1)
def code_remainder.b2 (N : Nat) (register : Int) (K_1 : List Int → Option (List Int)) (rec1 : Int × List Int → Option (List Int)) : Int × List Int → Option (List Int) := fun (top, b01) =>
  br (decide (top > (0 : Int))) (
  br ((andI register top != (0 : Int))) (
  chk (b01.length + ([(1 : Int)] : List Int).length ≤ 1000000000) <|
  rec1 (shrI top (1 : Int), (b01 ++ ([(1 : Int)] : List Int)))) (
  chk (b01.length + ([(0 : Int)] : List Int).length ≤ 1000000000) <|
  rec1 (shrI top (1 : Int), (b01 ++ ([(0 : Int)] : List Int))))) (
  K_1 b01)
def code_remainder (N : Nat) (p_Degree : Int) (p_Taps : Int) (bits : List Int) : Option (List Int) :=
  chk (0 ≤ w64 (p_Degree - (1 : Int))) <|
  jn (τ := Int) (fun (register : Int) =>
    jn (τ := List Int) (fun (b0 : List Int) =>
      some b0) fun K_1 =>
    rds (code_remainder.b2 N register K_1) N (shlI (1 : Int) (w64 (p_Degree - (1 : Int))), ([] : List Int))) fun K_ =>
  rds (code_remainder.b1 N p_Degree p_Taps bits K_) N ((0 : Int), (0 : Int))

def code_Remainder (N : Nat) (p_Degree : Int) (p_Taps : Int) (bits : List Int) : Option (List Int × Int) :=
  bnd (code_CheckPoly N p_Degree p_Taps) fun x1 =>
  bnd (code_bitsErr N bits) fun x2 =>
  bnd (code_first N ([x1, x2] : List Int)) fun x3 =>
  br ((x3 != (0 : Int))) (
  some (([] : List Int), x3)) (
  bnd (code_remainder N p_Degree p_Taps bits) fun x4 =>
  some (x4, (0 : Int)))

def law02_Polar (N : Nat)  : Option (Int × List Int) :=
  some ((2 : Int), ([(1 : Int), (2 : Int), (3 : Int)] : List Int))

def code_isPower (N : Nat) (n : Int) : Option Bool :=
  bnd (code_within N n (0 : Int) (6 : Int)) fun x1 =>
  some x1

def code_CheckPolar.b1 (N : Nat) (c_Power : Int) (c_Info : List Int) (K_ : Unit → Option Int) (rec : Int × Int → Option Int) : Int × Int → Option Int := fun (before, t25) =>
  br (decide (t25 < (c_Info.length : Int))) (
  chk (0 ≤ t25 ∧ t25 < (c_Info.length : Int)) <|
  chk (0 ≤ c_Power) <|
  bnd (code_within N (c_Info.getD t25.toNat 0) (0 : Int) (w64 ((shlI (1 : Int) c_Power) - (1 : Int)))) fun x5 =>
  bnd (code_unless N x5 (2 : Int)) fun x6 =>
  bnd (code_unless N (decide ((c_Info.getD t25.toNat 0) > before)) (9 : Int)) fun x7 =>
  bnd (code_first N ([x6, x7] : List Int)) fun x8 =>
  br ((x8 != (0 : Int))) (
  some x8) (
  rec ((c_Info.getD t25.toNat 0), w64 (t25 + (1 : Int))))) (
  K_ ())
def code_CheckPolar (N : Nat) (c_Power : Int) (c_Info : List Int) : Option Int :=
  bnd (code_isPower N c_Power) fun x1 =>
  bnd (code_unless N x1 (2 : Int)) fun x2 =>
  bnd (code_unless N (decide ((c_Info.length : Int) > (0 : Int))) (10 : Int)) fun x3 =>
  bnd (code_first N ([x2, x3] : List Int)) fun x4 =>
  br ((x4 != (0 : Int))) (
  some x4) (
  jn (τ := Unit) (fun (_ : Unit) =>
    some (0 : Int)) fun K_ =>
  rds (code_CheckPolar.b1 N c_Power c_Info K_) N ((-1 : Int), (0 : Int)))

def code_encode.b1 (N : Nat) (c_Info : List Int) (info : List Int) (K_ : List Int → Option (List Int)) (rec : Int × List Int → Option (List Int)) : Int × List Int → Option (List Int) := fun (t15, b11) =>
  br (decide (t15 < (c_Info.length : Int))) (
  chk (0 ≤ t15 ∧ t15 < (c_Info.length : Int)) <|
  chk (0 ≤ t15 ∧ t15 < (info.length : Int)) <|
  chk (0 ≤ (c_Info.getD t15.toNat 0) ∧ (c_Info.getD t15.toNat 0) < (b11.length : Int)) <|
  rec (w64 (t15 + (1 : Int)), (b11.set ((c_Info.getD t15.toNat 0).toNat) (info.getD t15.toNat 0)))) (
  K_ b11)
def code_encode.b3 (N : Nat) (step : Int) (b13 : List Int) (K_2 : List Int → Option (List Int)) (rec2 : Int × List Int → Option (List Int)) : Int × List Int → Option (List Int) := fun (t13, b15) =>
  br (decide (t13 < (b13.length : Int))) (
  br ((andI t13 step == (0 : Int))) (
  chk (0 ≤ t13 ∧ t13 < (b15.length : Int)) <|
  chk (0 ≤ w64 (t13 + step) ∧ w64 (t13 + step) < (b15.length : Int)) <|
  chk (0 ≤ t13 ∧ t13 < (b15.length : Int)) <|
  rec2 (w64 (t13 + (1 : Int)), (b15.set t13.toNat (xorI (b15.getD t13.toNat 0) (b15.getD ((w64 (t13 + step)).toNat) 0))))) (
  rec2 (w64 (t13 + (1 : Int)), b15))) (
  K_2 b15)
def code_encode.b2 (N : Nat) (K_1 : List Int → Option (List Int)) (rec1 : Int × List Int → Option (List Int)) : Int × List Int → Option (List Int) := fun (step, b13) =>
  br (decide (step < (b13.length : Int))) (
  jn (τ := List Int) (fun (b14 : List Int) =>
    rec1 (w64 (step * (2 : Int)), b14)) fun K_2 =>
  rds (code_encode.b3 N step b13 K_2) N ((0 : Int), b13)) (
  K_1 b13)
def code_encode (N : Nat) (c_Power : Int) (c_Info : List Int) (info : List Int) : Option (List Int) :=
  chk (0 ≤ c_Power) <|
  chk (0 ≤ shlI (1 : Int) c_Power ∧ shlI (1 : Int) c_Power ≤ 1000000000) <|
  jn (τ := List Int) (fun (b1 : List Int) =>
    jn (τ := List Int) (fun (b12 : List Int) =>
      some b12) fun K_1 =>
    rds (code_encode.b2 N K_1) N ((1 : Int), b1)) fun K_ =>
  rds (code_encode.b1 N c_Info info K_) N ((0 : Int), (List.replicate (shlI (1 : Int) c_Power).toNat (0 : Int)))

def code_Encode (N : Nat) (c_Power : Int) (c_Info : List Int) (info : List Int) : Option (List Int × Int) :=
  bnd (code_CheckPolar N c_Power c_Info) fun x1 =>
  bnd (code_bitsErr N info) fun x2 =>
  bnd (code_unless N ((info.length : Int) == (c_Info.length : Int)) (10 : Int)) fun x3 =>
  bnd (code_first N ([x1, x2, x3] : List Int)) fun x4 =>
  br ((x4 != (0 : Int))) (
  some (([] : List Int), x4)) (
  bnd (code_encode N c_Power c_Info info) fun x5 =>
  some (x5, (0 : Int)))

def code_upTo_1 (N : Nat) (n : Int) (a1 : Int) : Option Bool :=
  bnd (code_within N n (w64 (0 - a1)) a1) fun x1 =>
  some x1

def code_softErr (N : Nat) (l : List Int) : Option Int :=
  bnd (code_listErr N l (400 : Int) (fun y0 => code_upTo_1 N y0 (1000000 : Int)) (2 : Int)) fun x1 =>
  some x1

def cmp_isNaN_int (N : Nat) (x : Int) : Option Bool :=
  some (x != x)

def cmp_Less_int (N : Nat) (x : Int) (y : Int) : Option Bool :=
  bnd (cmp_isNaN_int N x) fun x1 =>
  bnd (grd x1 false (cmp_isNaN_int N y)) fun x2 =>
  some ((x1 && (!x2)) || (decide (x < y)))

def slices_isNaN_int (N : Nat) (x : Int) : Option Bool :=
  some (x != x)

def slices_BinarySearch_ii.b1 (N : Nat) (x : List Int) (target : Int) (K_ : Int → Option (Int × Bool)) (rec : Int × Int → Option (Int × Bool)) : Int × Int → Option (Int × Bool) := fun (i1, j) =>
  br (decide (i1 < j)) (
  chk (0 ≤ w64 (shrI (wu64 (w64 (i1 + j))) (1 : Int)) ∧ w64 (shrI (wu64 (w64 (i1 + j))) (1 : Int)) < (x.length : Int)) <|
  bnd (cmp_Less_int N (x.getD ((w64 (shrI (wu64 (w64 (i1 + j))) (1 : Int))).toNat) 0) target) fun x1 =>
  br (x1) (
  rec (w64 ((w64 (shrI (wu64 (w64 (i1 + j))) (1 : Int))) + (1 : Int)), j)) (
  rec (i1, w64 (shrI (wu64 (w64 (i1 + j))) (1 : Int))))) (
  K_ i1)
def slices_BinarySearch_ii (N : Nat) (x : List Int) (target : Int) : Option (Int × Bool) :=
  jn (τ := Int) (fun (i : Int) =>
    chk ((decide (i < (x.length : Int))) = true → 0 ≤ i ∧ i < (x.length : Int)) <|
    chk (((decide (i < (x.length : Int))) && !((x.getD i.toNat 0) == target)) = true → 0 ≤ i ∧ i < (x.length : Int)) <|
    bnd (grd ((decide (i < (x.length : Int))) && !((x.getD i.toNat 0) == target)) false (slices_isNaN_int N (x.getD i.toNat 0))) fun x2 =>
    bnd (grd (((decide (i < (x.length : Int))) && !((x.getD i.toNat 0) == target)) && x2) false (slices_isNaN_int N target)) fun x3 =>
    some (i, ((decide (i < (x.length : Int))) && (((x.getD i.toNat 0) == target) || (x2 && x3))))) fun K_ =>
  rds (slices_BinarySearch_ii.b1 N x target K_) N ((0 : Int), (x.length : Int))

def code_decode_1 (N : Nat) (position : Int) (a1_Power : Int) (a1_Info : List Int) : Option Bool :=
  bnd (slices_BinarySearch_ii N a1_Info position) fun (x1, x11) =>
  some x11

def code_size (N : Nat) (n : Int) : Option Int :=
  some (if n < w64 (0 - n) then w64 (0 - n) else n)

def cmp_Compare_int (N : Nat) (x : Int) (y : Int) : Option Int :=
  bnd (cmp_isNaN_int N x) fun x1 =>
  bnd (cmp_isNaN_int N y) fun x2 =>
  br (x1) (
  br (x2) (
  some (0 : Int)) (
  some (-1 : Int))) (
  br (x2) (
  some (1 : Int)) (
  br (decide (x < y)) (
  some (-1 : Int)) (
  br (decide (x > y)) (
  some (1 : Int)) (
  some (0 : Int)))))

def code_sign (N : Nat) (n : Int) : Option Int :=
  bnd (cmp_Compare_int N n (0 : Int)) fun x1 =>
  some x1

def code_cancel.b1 (N : Nat) (soft : List Int) (K_ : List Int → Option (List Int)) (rec : Int × List Int → Option (List Int)) : Int × List Int → Option (List Int) := fun (t40, b01) =>
  br (decide (t40 < w64 ((soft.length : Int).tdiv (2 : Int)))) (
  chk (0 ≤ t40 ∧ t40 < ((soft.take ((w64 ((soft.length : Int).tdiv (2 : Int))).toNat)).length : Int)) <|
  bnd (code_size N ((soft.take ((w64 ((soft.length : Int).tdiv (2 : Int))).toNat)).getD t40.toNat 0)) fun x2 =>
  chk (0 ≤ t40 ∧ t40 < (((soft.drop ((w64 ((soft.length : Int).tdiv (2 : Int))).toNat)).take (soft.length - (w64 ((soft.length : Int).tdiv (2 : Int))).toNat)).length : Int)) <|
  bnd (code_size N (((soft.drop ((w64 ((soft.length : Int).tdiv (2 : Int))).toNat)).take (soft.length - (w64 ((soft.length : Int).tdiv (2 : Int))).toNat)).getD t40.toNat 0)) fun x3 =>
  chk (0 ≤ t40 ∧ t40 < ((soft.take ((w64 ((soft.length : Int).tdiv (2 : Int))).toNat)).length : Int)) <|
  bnd (code_sign N ((soft.take ((w64 ((soft.length : Int).tdiv (2 : Int))).toNat)).getD t40.toNat 0)) fun x4 =>
  chk (0 ≤ t40 ∧ t40 < (((soft.drop ((w64 ((soft.length : Int).tdiv (2 : Int))).toNat)).take (soft.length - (w64 ((soft.length : Int).tdiv (2 : Int))).toNat)).length : Int)) <|
  bnd (code_sign N (((soft.drop ((w64 ((soft.length : Int).tdiv (2 : Int))).toNat)).take (soft.length - (w64 ((soft.length : Int).tdiv (2 : Int))).toNat)).getD t40.toNat 0)) fun x5 =>
  chk (0 ≤ t40 ∧ t40 < (b01.length : Int)) <|
  rec (w64 (t40 + (1 : Int)), (b01.set t40.toNat (w64 ((w64 ((if x3 < x2 then x3 else x2) * x4)) * x5))))) (
  K_ b01)
def code_cancel.b3 (N : Nat) (step : Int) (b21 : List Int) (K_3 : List Int → Option (List Int)) (rec2 : Int × List Int → Option (List Int)) : Int × List Int → Option (List Int) := fun (t13, b23) =>
  br (decide (t13 < (b21.length : Int))) (
  br ((andI t13 step == (0 : Int))) (
  chk (0 ≤ t13 ∧ t13 < (b23.length : Int)) <|
  chk (0 ≤ w64 (t13 + step) ∧ w64 (t13 + step) < (b23.length : Int)) <|
  chk (0 ≤ t13 ∧ t13 < (b23.length : Int)) <|
  rec2 (w64 (t13 + (1 : Int)), (b23.set t13.toNat (xorI (b23.getD t13.toNat 0) (b23.getD ((w64 (t13 + step)).toNat) 0))))) (
  rec2 (w64 (t13 + (1 : Int)), b23))) (
  K_3 b23)
def code_cancel.b2 (N : Nat) (K_2 : List Int → Option (List Int)) (rec1 : Int × List Int → Option (List Int)) : Int × List Int → Option (List Int) := fun (step, b21) =>
  br (decide (step < (b21.length : Int))) (
  jn (τ := List Int) (fun (b22 : List Int) =>
    rec1 (w64 (step * (2 : Int)), b22)) fun K_3 =>
  rds (code_cancel.b3 N step b21 K_3) N ((0 : Int), b21)) (
  K_2 b21)
def code_cancel.b4 (N : Nat) (soft : List Int) (K_1 : List Int → Option (List Int)) (b2 : List Int) (rec3 : Int × List Int → Option (List Int)) : Int × List Int → Option (List Int) := fun (t78, b03) =>
  br (decide (t78 < (b2.length : Int))) (
  chk (0 ≤ t78 ∧ t78 < (b2.length : Int)) <|
  chk (0 ≤ t78 ∧ t78 < (((soft.drop ((w64 ((soft.length : Int).tdiv (2 : Int))).toNat)).take (soft.length - (w64 ((soft.length : Int).tdiv (2 : Int))).toNat)).length : Int)) <|
  chk (0 ≤ t78 ∧ t78 < ((soft.take ((w64 ((soft.length : Int).tdiv (2 : Int))).toNat)).length : Int)) <|
  chk (0 ≤ t78 ∧ t78 < (b03.length : Int)) <|
  br (((b2.getD t78.toNat 0) == (1 : Int))) (
  chk (0 ≤ t78 ∧ t78 < (((soft.drop ((w64 ((soft.length : Int).tdiv (2 : Int))).toNat)).take (soft.length - (w64 ((soft.length : Int).tdiv (2 : Int))).toNat)).length : Int)) <|
  chk (0 ≤ t78 ∧ t78 < ((soft.take ((w64 ((soft.length : Int).tdiv (2 : Int))).toNat)).length : Int)) <|
  chk (0 ≤ t78 ∧ t78 < ((b03.set t78.toNat (w64 ((((soft.drop ((w64 ((soft.length : Int).tdiv (2 : Int))).toNat)).take (soft.length - (w64 ((soft.length : Int).tdiv (2 : Int))).toNat)).getD t78.toNat 0) + ((soft.take ((w64 ((soft.length : Int).tdiv (2 : Int))).toNat)).getD t78.toNat 0)))).length : Int)) <|
  rec3 (w64 (t78 + (1 : Int)), ((b03.set t78.toNat (w64 ((((soft.drop ((w64 ((soft.length : Int).tdiv (2 : Int))).toNat)).take (soft.length - (w64 ((soft.length : Int).tdiv (2 : Int))).toNat)).getD t78.toNat 0) + ((soft.take ((w64 ((soft.length : Int).tdiv (2 : Int))).toNat)).getD t78.toNat 0)))).set t78.toNat (w64 ((((soft.drop ((w64 ((soft.length : Int).tdiv (2 : Int))).toNat)).take (soft.length - (w64 ((soft.length : Int).tdiv (2 : Int))).toNat)).getD t78.toNat 0) - ((soft.take ((w64 ((soft.length : Int).tdiv (2 : Int))).toNat)).getD t78.toNat 0)))))) (
  rec3 (w64 (t78 + (1 : Int)), (b03.set t78.toNat (w64 ((((soft.drop ((w64 ((soft.length : Int).tdiv (2 : Int))).toNat)).take (soft.length - (w64 ((soft.length : Int).tdiv (2 : Int))).toNat)).getD t78.toNat 0) + ((soft.take ((w64 ((soft.length : Int).tdiv (2 : Int))).toNat)).getD t78.toNat 0))))))) (
  K_1 b03)
def code_cancel.b (N : Nat) (isInfo : Int → Option Bool) (self_ : List Int × Int → Option (List Int)) : List Int × Int → Option (List Int) := fun (soft, from_) =>
  br ((w64 ((soft.length : Int).tdiv (2 : Int)) == (0 : Int))) (
  bnd (isInfo from_) fun x1 =>
  chk (x1 = true → 0 ≤ (0 : Int) ∧ (0 : Int) < (soft.length : Int)) <|
  br ((x1 && (decide ((soft.getD 0 0) < (0 : Int))))) (
  some ([(1 : Int)] : List Int)) (
  some ([(0 : Int)] : List Int))) (
  chk (0 ≤ (0 : Int) ∧ (0 : Int) ≤ w64 ((soft.length : Int).tdiv (2 : Int)) ∧ w64 ((soft.length : Int).tdiv (2 : Int)) ≤ (soft.length : Int)) <|
  chk (0 ≤ w64 ((soft.length : Int).tdiv (2 : Int)) ∧ w64 ((soft.length : Int).tdiv (2 : Int)) ≤ (soft.length : Int) ∧ (soft.length : Int) ≤ (soft.length : Int)) <|
  chk (0 ≤ w64 ((soft.length : Int).tdiv (2 : Int)) ∧ w64 ((soft.length : Int).tdiv (2 : Int)) ≤ 1000000000) <|
  jn (τ := List Int) (fun (b0 : List Int) =>
    bnd (self_ (b0, from_)) fun x6 =>
    jn (τ := List Int) (fun (b02 : List Int) =>
      bnd (self_ (b02, w64 (from_ + (w64 ((soft.length : Int).tdiv (2 : Int)))))) fun x8 =>
      chk (x6.length + x8.length ≤ 1000000000) <|
      some (x6 ++ x8)) fun K_1 =>
    bnd (slices_Clone_ii N x6) fun x7 =>
    jn (τ := List Int) (fun (b2 : List Int) =>
      rds (code_cancel.b4 N soft K_1 b2) N ((0 : Int), b0)) fun K_2 =>
    rds (code_cancel.b2 N K_2) N ((1 : Int), x7)) fun K_ =>
  rds (code_cancel.b1 N soft K_) N ((0 : Int), (List.replicate (w64 ((soft.length : Int).tdiv (2 : Int))).toNat (0 : Int))))
def code_cancel (N : Nat) (soft : List Int) (from_ : Int) (isInfo : Int → Option Bool) : Option (List Int) := rds (code_cancel.b N isInfo) N (soft, from_)

def code_decode.b1 (N : Nat) (c_Info : List Int) (x1 : List Int) (K_ : List Int → Option (List Int)) (rec : Int × List Int → Option (List Int)) : Int × List Int → Option (List Int) := fun (t15, b21) =>
  br (decide (t15 < (c_Info.length : Int))) (
  chk (0 ≤ t15 ∧ t15 < (c_Info.length : Int)) <|
  chk (0 ≤ (c_Info.getD t15.toNat 0) ∧ (c_Info.getD t15.toNat 0) < (x1.length : Int)) <|
  chk (b21.length + ([(x1.getD ((c_Info.getD t15.toNat 0).toNat) 0)] : List Int).length ≤ 1000000000) <|
  rec (w64 (t15 + (1 : Int)), (b21 ++ ([(x1.getD ((c_Info.getD t15.toNat 0).toNat) 0)] : List Int)))) (
  K_ b21)
def code_decode (N : Nat) (c_Power : Int) (c_Info : List Int) (soft : List Int) : Option (List Int) :=
  bnd (code_cancel N soft (0 : Int) (fun y0 => code_decode_1 N y0 c_Power c_Info)) fun x1 =>
  jn (τ := List Int) (fun (b2 : List Int) =>
    some b2) fun K_ =>
  rds (code_decode.b1 N c_Info x1 K_) N ((0 : Int), ([] : List Int))

def code_Decode (N : Nat) (c_Power : Int) (c_Info : List Int) (soft : List Int) : Option (List Int × Int) :=
  bnd (code_CheckPolar N c_Power c_Info) fun x1 =>
  bnd (code_softErr N soft) fun x2 =>
  bnd (code_first N ([x1, x2] : List Int)) fun x3 =>
  br ((x3 != (0 : Int))) (
  some (([] : List Int), x3)) (
  chk (0 ≤ c_Power) <|
  br (((soft.length : Int) != shlI (1 : Int) c_Power)) (
  some (([] : List Int), (10 : Int))) (
  bnd (code_decode N c_Power c_Info soft) fun x4 =>
  some (x4, (0 : Int))))

def code_isVersion (N : Nat) (n : Int) : Option Bool :=
  bnd (code_within N n (0 : Int) (3 : Int)) fun x1 =>
  some x1

def code_isCount (N : Nat) (n : Int) : Option Bool :=
  bnd (code_within N n (1 : Int) (400 : Int)) fun x1 =>
  some x1

def code_match.b1 (N : Nat) (word : List Int) (version : Int) (count : Int) (K_ : List Int → Option (List Int)) (rec : Int × List Int → Option (List Int)) : Int × List Int → Option (List Int) := fun (t12, b51) =>
  br (decide (t12 < count)) (
  chk ((word.length : Int) ≠ 0) <|
  chk (0 ≤ (w64 ((w64 ((w64 (version * (word.length : Int))).tdiv (4 : Int))) + t12)).tmod (word.length : Int) ∧ (w64 ((w64 ((w64 (version * (word.length : Int))).tdiv (4 : Int))) + t12)).tmod (word.length : Int) < (word.length : Int)) <|
  chk (b51.length + ([(word.getD (((w64 ((w64 ((w64 (version * (word.length : Int))).tdiv (4 : Int))) + t12)).tmod (word.length : Int)).toNat) 0)] : List Int).length ≤ 1000000000) <|
  br (!true) (
  K_ (b51 ++ ([(word.getD (((w64 ((w64 ((w64 (version * (word.length : Int))).tdiv (4 : Int))) + t12)).tmod (word.length : Int)).toNat) 0)] : List Int))) (
  rec (w64 (t12 + (1 : Int)), (b51 ++ ([(word.getD (((w64 ((w64 ((w64 (version * (word.length : Int))).tdiv (4 : Int))) + t12)).tmod (word.length : Int)).toNat) 0)] : List Int))))) (
  K_ b51)
def code_match (N : Nat) (word : List Int) (version : Int) (count : Int) : Option (List Int) :=
  jn (τ := List Int) (fun (b5 : List Int) =>
    some b5) fun K_ =>
  rds (code_match.b1 N word version count K_) N ((0 : Int), ([] : List Int))

def code_Match (N : Nat) (word : List Int) (version : Int) (count : Int) : Option (List Int × Int) :=
  bnd (code_bitsErr N word) fun x1 =>
  bnd (code_isVersion N version) fun x2 =>
  bnd (code_unless N x2 (15 : Int)) fun x3 =>
  bnd (code_isCount N count) fun x4 =>
  bnd (code_unless N x4 (2 : Int)) fun x5 =>
  bnd (code_first N ([x1, x3, x5] : List Int)) fun x6 =>
  br ((x6 != (0 : Int))) (
  some (([] : List Int), x6)) (
  bnd (code_match N word version count) fun x7 =>
  some (x7, (0 : Int)))

def base_Ints.b1 (N : Nat) (a : List Int) (b : List Int) (K_ : Unit → Option Bool) (rec : Int → Option Bool) : Int → Option Bool := fun i =>
  br (decide (i < (a.length : Int))) (
  chk (0 ≤ i ∧ i < (a.length : Int)) <|
  chk (0 ≤ i ∧ i < (b.length : Int)) <|
  br (((a.getD i.toNat 0) != (b.getD i.toNat 0))) (
  some false) (
  rec (w64 (i + (1 : Int))))) (
  K_ ())
def base_Ints (N : Nat) (a : List Int) (b : List Int) : Option Bool :=
  br (((a.length : Int) != (b.length : Int))) (
  some false) (
  jn (τ := Unit) (fun (_ : Unit) =>
    some true) fun K_ =>
  rds (base_Ints.b1 N a b K_) N (0 : Int))

def law02_awake (N : Nat)  : Option Bool :=
  bnd (law02_Poly N ) fun (x1, x11) =>
  bnd (code_Remainder N x1 x11 ([(1 : Int)] : List Int)) fun (x2, x21) =>
  bnd (law02_Polar N ) fun (x3, x31) =>
  bnd (code_Encode N x3 x31 ([(1 : Int), (0 : Int), (1 : Int)] : List Int)) fun (x4, x41) =>
  bnd (law02_Polar N ) fun (x5, x51) =>
  bnd (code_Decode N x5 x51 ([(4 : Int), (3 : Int), (-2 : Int), (-5 : Int)] : List Int)) fun (x6, x61) =>
  bnd (code_Match N ([(0 : Int), (0 : Int), (1 : Int), (1 : Int), (1 : Int)] : List Int) (1 : Int) (7 : Int)) fun (x7, x71) =>
  bnd (grd (x21 == (0 : Int)) false (base_Ints N x2 ([(0 : Int), (1 : Int), (1 : Int)] : List Int))) fun x8 =>
  bnd (grd (((x21 == (0 : Int)) && x8) && (x41 == (0 : Int))) false (base_Ints N x4 ([(0 : Int), (0 : Int), (1 : Int), (1 : Int)] : List Int))) fun x9 =>
  bnd (grd (((((x21 == (0 : Int)) && x8) && (x41 == (0 : Int))) && x9) && (x61 == (0 : Int))) false (base_Ints N x6 ([(1 : Int), (0 : Int), (1 : Int)] : List Int))) fun x10 =>
  bnd (grd (((((((x21 == (0 : Int)) && x8) && (x41 == (0 : Int))) && x9) && (x61 == (0 : Int))) && x10) && (x71 == (0 : Int))) false (base_Ints N x7 ([(0 : Int), (1 : Int), (1 : Int), (1 : Int), (0 : Int), (0 : Int), (1 : Int)] : List Int))) fun x111 =>
  some ((((((((x21 == (0 : Int)) && x8) && (x41 == (0 : Int))) && x9) && (x61 == (0 : Int))) && x10) && (x71 == (0 : Int))) && x111)

def base_AreBits.b1 (N : Nat) (l : List Int) (K_ : Unit → Option Bool) (rec : Int → Option Bool) : Int → Option Bool := fun i =>
  br (decide (i < (l.length : Int))) (
  chk (0 ≤ i ∧ i < (l.length : Int)) <|
  chk (((l.getD i.toNat 0) != (0 : Int)) = true → 0 ≤ i ∧ i < (l.length : Int)) <|
  br ((((l.getD i.toNat 0) != (0 : Int)) && ((l.getD i.toNat 0) != (1 : Int)))) (
  some false) (
  rec (w64 (i + (1 : Int))))) (
  K_ ())
def base_AreBits (N : Nat) (l : List Int) : Option Bool :=
  jn (τ := Unit) (fun (_ : Unit) =>
    some true) fun K_ =>
  rds (base_AreBits.b1 N l K_) N (0 : Int)

def base_CopyInts (N : Nat) (l : List Int) : Option (List Int) :=
  chk (([] : List Int).length + l.length ≤ 1000000000) <|
  some (([] : List Int) ++ l)

def code_FormatBits.b1 (N : Nat) (bits : List Int) (K_ : List Int → Option ByteArray) (rec : Int × List Int → Option ByteArray) : Int × List Int → Option ByteArray := fun (t8, b11) =>
  br (decide (t8 < (bits.length : Int))) (
  chk (0 ≤ t8 ∧ t8 < (bits.length : Int)) <|
  br (((bits.getD t8.toNat 0) == (0 : Int))) (
  chk (b11.length + ([(48 : Int)] : List Int).length ≤ 1000000000) <|
  rec (w64 (t8 + (1 : Int)), (b11 ++ ([(48 : Int)] : List Int)))) (
  br (((bits.getD t8.toNat 0) == (1 : Int))) (
  chk (b11.length + ([(49 : Int)] : List Int).length ≤ 1000000000) <|
  rec (w64 (t8 + (1 : Int)), (b11 ++ ([(49 : Int)] : List Int)))) (
  chk (b11.length + ([(63 : Int)] : List Int).length ≤ 1000000000) <|
  rec (w64 (t8 + (1 : Int)), (b11 ++ ([(63 : Int)] : List Int)))))) (
  K_ b11)
def code_FormatBits (N : Nat) (bits : List Int) : Option ByteArray :=
  jn (τ := List Int) (fun (b1 : List Int) =>
    chk (okByte b1) <|
    some (bytesB b1)) fun K_ =>
  rds (code_FormatBits.b1 N bits K_) N ((0 : Int), ([] : List Int))

def code_ParseBits.b1 (N : Nat) (s : ByteArray) (K_ : List Int → Option (List Int × Int)) (rec : Int × List Int → Option (List Int × Int)) : Int × List Int → Option (List Int × Int) := fun (t13, b01) =>
  br (decide (t13 < ((bytesL s).length : Int))) (
  chk (0 ≤ t13 ∧ t13 < ((bytesL s).length : Int)) <|
  br (((((bytesL s).getD t13.toNat 0) != (48 : Int)) && (((bytesL s).getD t13.toNat 0) != (49 : Int)))) (
  some (([] : List Int), (7 : Int))) (
  chk (b01.length + ([w64 (wu8 (((bytesL s).getD t13.toNat 0) - (48 : Int)))] : List Int).length ≤ 1000000000) <|
  rec (w64 (t13 + (1 : Int)), (b01 ++ ([w64 (wu8 (((bytesL s).getD t13.toNat 0) - (48 : Int)))] : List Int))))) (
  K_ b01)
def code_ParseBits (N : Nat) (s : ByteArray) : Option (List Int × Int) :=
  br (decide ((s.size : Int) > (200 : Int))) (
  some (([] : List Int), (8 : Int))) (
  jn (τ := List Int) (fun (b0 : List Int) =>
    some (b0, (0 : Int))) fun K_ =>
  rds (code_ParseBits.b1 N s K_) N ((0 : Int), ([] : List Int)))

def ref02_ParseBits.b1 (N : Nat) (s : ByteArray) (K_ : List Int → Option (List Int × Int)) (rec : Int × List Int → Option (List Int × Int)) : Int × List Int → Option (List Int × Int) := fun (i, b01) =>
  br (decide (i < (s.size : Int))) (
  chk (0 ≤ i ∧ i < (s.size : Int)) <|
  chk (((s.data.getD i.toNat 0).toNat != (48 : Int)) = true → 0 ≤ i ∧ i < (s.size : Int)) <|
  br ((((s.data.getD i.toNat 0).toNat != (48 : Int)) && ((s.data.getD i.toNat 0).toNat != (49 : Int)))) (
  some (([] : List Int), (7 : Int))) (
  chk (0 ≤ i ∧ i < (s.size : Int)) <|
  chk (b01.length + ([w64 (wu8 (((s.data.getD i.toNat 0).toNat) - (48 : Int)))] : List Int).length ≤ 1000000000) <|
  rec (w64 (i + (1 : Int)), (b01 ++ ([w64 (wu8 (((s.data.getD i.toNat 0).toNat) - (48 : Int)))] : List Int))))) (
  K_ b01)
def ref02_ParseBits (N : Nat) (s : ByteArray) : Option (List Int × Int) :=
  br (decide ((s.size : Int) > (200 : Int))) (
  some (([] : List Int), (8 : Int))) (
  jn (τ := List Int) (fun (b0 : List Int) =>
    some (b0, (0 : Int))) fun K_ =>
  rds (ref02_ParseBits.b1 N s K_) N ((0 : Int), ([] : List Int)))

def ref02_FormatBits.b1 (N : Nat) (bits : List Int) (K_ : ByteArray → Option ByteArray) (rec : ByteArray × Int → Option ByteArray) : ByteArray × Int → Option ByteArray := fun (t1, i) =>
  br (decide (i < (bits.length : Int))) (
  chk (0 ≤ i ∧ i < (bits.length : Int)) <|
  br (((bits.getD i.toNat 0) == (0 : Int))) (
  chk (t1.size + 1 ≤ 1000000000) <|
  rec ((t1 ++ (⟨#[48]⟩ : ByteArray)), w64 (i + (1 : Int)))) (
  br (((bits.getD i.toNat 0) == (1 : Int))) (
  chk (t1.size + 1 ≤ 1000000000) <|
  rec ((t1 ++ (⟨#[49]⟩ : ByteArray)), w64 (i + (1 : Int)))) (
  chk (t1.size + 1 ≤ 1000000000) <|
  rec ((t1 ++ (⟨#[63]⟩ : ByteArray)), w64 (i + (1 : Int)))))) (
  K_ t1)
def ref02_FormatBits (N : Nat) (bits : List Int) : Option ByteArray :=
  jn (τ := ByteArray) (fun (t : ByteArray) =>
    some t) fun K_ =>
  rds (ref02_FormatBits.b1 N bits K_) N ((⟨#[]⟩ : ByteArray), (0 : Int))

def law02_CodeTexts (N : Nat) (bits : List Int) (s : ByteArray) : Option Bool :=
  bnd (law02_awake N ) fun x1 =>
  br (!x1) (
  some false) (
  br (((decide ((bits.length : Int) > (210 : Int))) || (decide ((s.size : Int) > (210 : Int))))) (
  some true) (
  bnd (base_CopyInts N bits) fun x2 =>
  bnd (code_FormatBits N x2) fun x3 =>
  bnd (code_ParseBits N s) fun (x4, x41) =>
  bnd (ref02_ParseBits N s) fun (x5, x51) =>
  bnd (ref02_FormatBits N bits) fun x6 =>
  bnd (grd (!((!(x3.toList == x6.toList)) || (x41 != x51))) false (base_Ints N x4 x5)) fun x7 =>
  br ((((!(x3.toList == x6.toList)) || (x41 != x51)) || (!x7))) (
  some false) (
  bnd (base_AreBits N bits) fun x8 =>
  br (((!x8) || (decide ((bits.length : Int) > (200 : Int))))) (
  some true) (
  bnd (code_ParseBits N x3) fun (x9, x91) =>
  bnd (grd (x91 == (0 : Int)) false (base_Ints N x9 bits)) fun x10 =>
  some ((x91 == (0 : Int)) && x10)))))

end
end Go.Sh
