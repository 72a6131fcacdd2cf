import Derived.Test.YtbndgoeahoadlaaGreatDoorAsM
import Derived.Test.YtbndgoeahoadlaaGreatDoorPwG5
set_option linter.all false
namespace Go.Sh
open Go.PW
noncomputable section
def j1 (N : Nat) (n : Int) (lo : Int) (hi : Int) : Option Bool :=
  some ((decide (lo ≤ n)) && (decide (n ≤ hi)))

def j0 (N : Nat) (is_ : Bool) (e : Int) : Option Int :=
  br (is_) (
  some (0 : Int)) (
  some e)

def access_isTick (N : Nat) (n : Int) : Option Bool :=
  bnd (j1 N n (0 : Int) (1000000000 : Int)) fun x1 =>
  some x1

def A3 (N : Nat) (n : Int) : Option Int :=
  bnd (access_isTick N n) fun x1 =>
  bnd (j0 N x1 (2 : Int)) fun x2 =>
  some x2

def D1 (N : Nat) (l : List Int) (K_ : Unit → Option Int) (rec : Int → Option Int) : Int → Option Int := fun t7 =>
  br (decide (t7 < (l.length : Int))) (
  chk (0 ≤ t7 ∧ t7 < (l.length : Int)) <|
  br (((l.getD t7.toNat 0) != (0 : Int))) (
  some (l.getD t7.toNat 0)) (
  rec (w64 (t7 + (1 : Int))))) (
  K_ ())
def access_first (N : Nat) (l : List Int) : Option Int :=
  jn (τ := Unit) (fun (_ : Unit) =>
    some (0 : Int)) fun K_ =>
  rds (D1 N l K_) N (0 : Int)

def k4 (N : Nat) (n : Int) (lo : Int) (hi : Int) : Option Bool :=
  some ((decide (lo ≤ n)) && (decide (n ≤ hi)))

def B4 (N : Nat) (n : Int) : Option Int :=
  bnd (k4 N n (0 : Int) (1000000000 : Int)) fun x1 =>
  br (!x1) (
  some (2 : Int)) (
  some (0 : Int))

def q5 (N : Nat) (Z15 : Int) (Z11 : Int) (Z18 : Int) (Z17 : Int) (Z16 : Int) (Z10 : Int) (Z13 : Int) : Option Int :=
  jn (τ := Unit) (fun (_ : Unit) =>
    some (0 : Int)) fun K_ =>
  bnd (j1 N Z15 (1 : Int) (8 : Int)) fun x1 =>
  br (!x1) (
  some (2 : Int)) (
  bnd (j1 N Z11 (1 : Int) (100 : Int)) fun x2 =>
  br (!x2) (
  some (2 : Int)) (
  bnd (j1 N Z18 (1 : Int) (100 : Int)) fun x3 =>
  br (!x3) (
  some (2 : Int)) (
  bnd (j1 N Z17 (1 : Int) (100 : Int)) fun x4 =>
  br (!x4) (
  some (2 : Int)) (
  bnd (j1 N Z16 (1 : Int) (10 : Int)) fun x5 =>
  br (!x5) (
  some (2 : Int)) (
  bnd (j1 N Z10 (0 : Int) (1000 : Int)) fun x6 =>
  br (!x6) (
  some (2 : Int)) (
  bnd (j1 N Z13 (1 : Int) (16 : Int)) fun x7 =>
  br (!x7) (
  some (2 : Int)) (
  K_ ())))))))

def w9 (N : Nat) (n : Int) : Option Int :=
  bnd (j0 N (decide (n > (0 : Int))) (10 : Int)) fun x1 =>
  bnd (j0 N (decide (n ≤ (8 : Int))) (8 : Int)) fun x2 =>
  bnd (access_first N ([x1, x2] : List Int)) fun x3 =>
  some x3

def access_isDraw (N : Nat) (n : Int) : Option Bool :=
  bnd (j1 N n (0 : Int) (998244352 : Int)) fun x1 =>
  some x1

def D0 (N : Nat) (draw : Int) : Option (Int × Int × Int × Int × Int × Int × Int) :=
  some ((0 : Int), (-1 : Int), (0 : Int), (-1 : Int), (0 : Int), (0 : Int), draw)

def w8 (N : Nat) (Z15 : Int) (Z11 : Int) (Z18 : Int) (Z17 : Int) (Z16 : Int) (Z10 : Int) (Z13 : Int) : Option Int :=
  bnd (k4 N Z15 (1 : Int) (8 : Int)) fun x1 =>
  bnd (grd x1 false (k4 N Z11 (1 : Int) (100 : Int))) fun x2 =>
  bnd (grd (!((!x1) || (!x2))) false (k4 N Z18 (1 : Int) (100 : Int))) fun x3 =>
  bnd (grd (!(((!x1) || (!x2)) || (!x3))) false (k4 N Z17 (1 : Int) (100 : Int))) fun x4 =>
  bnd (grd (!((((!x1) || (!x2)) || (!x3)) || (!x4))) false (k4 N Z16 (1 : Int) (10 : Int))) fun x5 =>
  bnd (grd (!(((((!x1) || (!x2)) || (!x3)) || (!x4)) || (!x5))) false (k4 N Z10 (0 : Int) (1000 : Int))) fun x6 =>
  bnd (grd (!((((((!x1) || (!x2)) || (!x3)) || (!x4)) || (!x5)) || (!x6))) false (k4 N Z13 (1 : Int) (16 : Int))) fun x7 =>
  br ((((((((!x1) || (!x2)) || (!x3)) || (!x4)) || (!x5)) || (!x6)) || (!x7))) (
  some (2 : Int)) (
  some (0 : Int))

def ref07_isDraw (N : Nat) (n : Int) : Option Bool :=
  bnd (k4 N n (0 : Int) (998244352 : Int)) fun x1 =>
  some x1

def G6 (N : Nat) (Ze : List (Int × Int × Int × Int × Int × Int × Int)) (Zi : List (Int × Int × Int × Int × Int × Int × Int)) (K_ : Unit → Option Bool) (rec : Int → Option Bool) : Int → Option Bool := fun i =>
  br (decide (i < (Ze.length : Int))) (
  chk (0 ≤ i ∧ i < (Ze.length : Int)) <|
  chk (0 ≤ i ∧ i < (Zi.length : Int)) <|
  br (!(((Ze.getD i.toNat default).1 == (Zi.getD i.toNat default).1) && (((Ze.getD i.toNat default).2.1 == (Zi.getD i.toNat default).2.1) && (((Ze.getD i.toNat default).2.2.1 == (Zi.getD i.toNat default).2.2.1) && (((Ze.getD i.toNat default).2.2.2.1 == (Zi.getD i.toNat default).2.2.2.1) && (((Ze.getD i.toNat default).2.2.2.2.1 == (Zi.getD i.toNat default).2.2.2.2.1) && (((Ze.getD i.toNat default).2.2.2.2.2.1 == (Zi.getD i.toNat default).2.2.2.2.2.1) && ((Ze.getD i.toNat default).2.2.2.2.2.2 == (Zi.getD i.toNat default).2.2.2.2.2.2)))))))) (
  some false) (
  rec (w64 (i + (1 : Int))))) (
  K_ ())
def ref07_Same (N : Nat) (Zd : Int) (Ze : List (Int × Int × Int × Int × Int × Int × Int)) (Zh : Int) (Zi : List (Int × Int × Int × Int × Int × Int × Int)) : Option Bool :=
  br (((Zd != Zh) || ((Ze.length : Int) != (Zi.length : Int)))) (
  some false) (
  jn (τ := Unit) (fun (_ : Unit) =>
    some true) fun K_ =>
  rds (G6 N Ze Zi K_) N (0 : Int))

def u5 (N : Nat) (stage : Int) (draw : Int) : Option (Int × Int × Int × Int × Int × Int × Int) :=
  some (stage, (-1 : Int), (0 : Int), (-1 : Int), (0 : Int), (0 : Int), draw)

def law07_Few (N : Nat) (Z1k : Int) (Z1o : List (Int × Int × Int × Int × Int × Int × Int)) : Option Bool :=
  some (decide ((Z1o.length : Int) ≤ (10 : Int)))

def A6 (N : Nat) (Z1k : Int) (Z1o : List (Int × Int × Int × Int × Int × Int × Int)) : Option (Int × (List (Int × Int × Int × Int × Int × Int × Int))) :=
  chk (Z1o.length ≤ 1000000000) <|
  some (Z1k, Z1o)

def access_fits (N : Nat) (Zx : Int) (Zv : Int) (Zw : Int) (Zs : Int) (Zz : Int) (Zy : Int) (Zq : Int) : Option Bool :=
  chk (0 ≤ Zx ∧ Zx < 6) <|
  br (Zx == (0 : Int)) (
    jn (τ := Unit) (fun (_ : Unit) =>
      jn (τ := Unit) (fun (_ : Unit) =>
        jn (τ := Unit) (fun (_ : Unit) =>
          br (true) (
          some (((0 : Int) == (0 : Int)) && ((Zv == (-1 : Int)) && ((Zw == (0 : Int)) && ((Zs == (-1 : Int)) && ((Zz == (0 : Int)) && ((Zy == (0 : Int)) && (Zq == Zq)))))))) (
          none)) fun K_2 =>
        br (true) (
        K_2 ()) (
        none)) fun K_1 =>
      br (true) (
      K_1 ()) (
      none)) fun K_ =>
    br (true) (
    K_ ()) (
    none)) (
  br (Zx == (1 : Int)) (
    jn (τ := Unit) (fun (_ : Unit) =>
      jn (τ := Unit) (fun (_ : Unit) =>
        jn (τ := Unit) (fun (_ : Unit) =>
          br (false) (
          none) (
          some (((1 : Int) == (1 : Int)) && ((Zv == Zv) && ((Zw == Zw) && ((Zs == (-1 : Int)) && ((Zz == Zz) && ((Zy == Zy) && (Zq == Zq))))))))) fun K_5 =>
        br (false) (
        none) (
        K_5 ())) fun K_4 =>
      br (true) (
      K_4 ()) (
      none)) fun K_3 =>
    br (false) (
    none) (
    K_3 ())) (
  br (Zx == (2 : Int)) (
    jn (τ := Unit) (fun (_ : Unit) =>
      jn (τ := Unit) (fun (_ : Unit) =>
        jn (τ := Unit) (fun (_ : Unit) =>
          br (false) (
          none) (
          some (((2 : Int) == (2 : Int)) && ((Zv == (-1 : Int)) && ((Zw == (0 : Int)) && ((Zs == Zs) && ((Zz == Zz) && ((Zy == Zy) && (Zq == Zq))))))))) fun K_8 =>
        br (false) (
        none) (
        K_8 ())) fun K_7 =>
      br (false) (
      none) (
      K_7 ())) fun K_6 =>
    br (true) (
    K_6 ()) (
    none)) (
  br (Zx == (3 : Int)) (
    jn (τ := Unit) (fun (_ : Unit) =>
      jn (τ := Unit) (fun (_ : Unit) =>
        jn (τ := Unit) (fun (_ : Unit) =>
          br (false) (
          none) (
          some (((3 : Int) == (3 : Int)) && ((Zv == (-1 : Int)) && ((Zw == (0 : Int)) && ((Zs == (-1 : Int)) && ((Zz == Zz) && ((Zy == Zy) && (Zq == Zq))))))))) fun K_11 =>
        br (false) (
        none) (
        K_11 ())) fun K_10 =>
      br (true) (
      K_10 ()) (
      none)) fun K_9 =>
    br (true) (
    K_9 ()) (
    none)) (
  br (Zx == (4 : Int)) (
    jn (τ := Unit) (fun (_ : Unit) =>
      jn (τ := Unit) (fun (_ : Unit) =>
        jn (τ := Unit) (fun (_ : Unit) =>
          br (true) (
          some (((4 : Int) == (4 : Int)) && ((Zv == (-1 : Int)) && ((Zw == (0 : Int)) && ((Zs == Zs) && ((Zz == (0 : Int)) && ((Zy == (0 : Int)) && (Zq == Zq)))))))) (
          none)) fun K_14 =>
        br (true) (
        K_14 ()) (
        none)) fun K_13 =>
      br (false) (
      none) (
      K_13 ())) fun K_12 =>
    br (true) (
    K_12 ()) (
    none)) (
  br (Zx == (5 : Int)) (
    jn (τ := Unit) (fun (_ : Unit) =>
      jn (τ := Unit) (fun (_ : Unit) =>
        jn (τ := Unit) (fun (_ : Unit) =>
          br (false) (
          none) (
          some (((5 : Int) == (5 : Int)) && ((Zv == (-1 : Int)) && ((Zw == (0 : Int)) && ((Zs == (-1 : Int)) && ((Zz == (0 : Int)) && ((Zy == Zy) && (Zq == Zq))))))))) fun K_17 =>
        br (true) (
        K_17 ()) (
        none)) fun K_16 =>
      br (true) (
      K_16 ()) (
      none)) fun K_15 =>
    br (true) (
    K_15 ()) (
    none)) (
  none))))))

def n1 (N : Nat) (Z1c : Int) (Z1a : Int) (Z1f : Int) (Z1e : Int) (Z1d : Int) (Z19 : Int) (Z1b : Int) (s_at : Int) (s_phones : List (Int × Int × Int × Int × Int × Int × Int)) (tick : Int) : Option Bool :=
  chk (Z1a ≠ 0) <|
  some (tick.tmod Z1a == (0 : Int))

def w4 (N : Nat) (Z1c : Int) (Z1a : Int) (Z1f : Int) (Z1e : Int) (Z1d : Int) (Z19 : Int) (Z1b : Int) (s_at : Int) (s_phones : List (Int × Int × Int × Int × Int × Int × Int)) (n : Int) : Option Bool :=
  bnd (j1 N n (0 : Int) (w64 (Z1c - (1 : Int)))) fun x1 =>
  some x1

def p8 (N : Nat) (Z1c : Int) (Z1a : Int) (Z1f : Int) (Z1e : Int) (Z1d : Int) (Z19 : Int) (Z1b : Int) (s_at : Int) (s_phones : List (Int × Int × Int × Int × Int × Int × Int)) (n : Int) : Option Bool :=
  bnd (j1 N n (0 : Int) (w64 (Z1b - (1 : Int)))) fun x1 =>
  some x1

def G9 (N : Nat) (Zx : Int) (Zv : Int) (Zw : Int) (Zs : Int) (Zz : Int) (Zy : Int) (Zq : Int) (a1 : Int) : Option Bool :=
  some ((Zx == (4 : Int)) && (Zs == a1))

def j5 (N : Nat) (s : List (Int × Int × Int × Int × Int × Int × Int)) (f : Int → Int → Int → Int → Int → Int → Int → Option Bool) (K_ : Unit → Option Int) (rec : Int → Option Int) : Int → Option Int := fun t8 =>
  br (decide (t8 < (s.length : Int))) (
  chk (0 ≤ t8 ∧ t8 < (s.length : Int)) <|
  bnd (f ((s.getD t8.toNat default).1) ((s.getD t8.toNat default).2.1) ((s.getD t8.toNat default).2.2.1) ((s.getD t8.toNat default).2.2.2.1) ((s.getD t8.toNat default).2.2.2.2.1) ((s.getD t8.toNat default).2.2.2.2.2.1) ((s.getD t8.toNat default).2.2.2.2.2.2)) fun x1 =>
  br (x1) (
  some t8) (
  rec (w64 (t8 + (1 : Int))))) (
  K_ ())
def slices_IndexFunc_api_AccessPhone_api_AccessPhone (N : Nat) (s : List (Int × Int × Int × Int × Int × Int × Int)) (f : Int → Int → Int → Int → Int → Int → Int → Option Bool) : Option Int :=
  jn (τ := Unit) (fun (_ : Unit) =>
    some (-1 : Int)) fun K_ =>
  rds (j5 N s f K_) N (0 : Int)

def j2 (N : Nat) (s : List (Int × Int × Int × Int × Int × Int × Int)) (f : Int → Int → Int → Int → Int → Int → Int → Option Bool) : Option Bool :=
  bnd (slices_IndexFunc_api_AccessPhone_api_AccessPhone N s f) fun x1 =>
  some (decide (x1 ≥ (0 : Int)))

def access_held (N : Nat) (l : List (Int × Int × Int × Int × Int × Int × Int)) (identity : Int) : Option Bool :=
  bnd (j2 N l (fun y0 y1 y2 y3 y4 y5 y6 => G9 N y0 y1 y2 y3 y4 y5 y6 identity)) fun x1 =>
  some x1

def access_had_1 (N : Nat) (Zx : Int) (Zv : Int) (Zw : Int) (Zs : Int) (Zz : Int) (Zy : Int) (Zq : Int) (a1 : Int) : Option Bool :=
  some (Zs == a1)

def access_had (N : Nat) (l : List (Int × Int × Int × Int × Int × Int × Int)) (identity : Int) : Option Bool :=
  bnd (j2 N l (fun y0 y1 y2 y3 y4 y5 y6 => access_had_1 N y0 y1 y2 y3 y4 y5 y6 identity)) fun x1 =>
  some x1

def o8 (N : Nat) (Z1c : Int) (Z1a : Int) (Z1f : Int) (Z1e : Int) (Z1d : Int) (Z19 : Int) (Z1b : Int) (s_at : Int) (s_phones : List (Int × Int × Int × Int × Int × Int × Int)) (number : Int) : Option Int :=
  chk (0 ≤ number ∧ number < (s_phones.length : Int)) <|
  chk (0 ≤ (0 : Int) ∧ (0 : Int) ≤ number ∧ number ≤ (s_phones.length : Int)) <|
  bnd (j1 N ((s_phones.getD number.toNat default).1) (0 : Int) (5 : Int)) fun x1 =>
  br (!x1) (
  some (15 : Int)) (
  bnd (access_isDraw N ((s_phones.getD number.toNat default).2.2.2.2.2.2)) fun x2 =>
  bnd (j0 N x2 (2 : Int)) fun x3 =>
  bnd (access_fits N ((s_phones.getD number.toNat default).1) ((s_phones.getD number.toNat default).2.1) ((s_phones.getD number.toNat default).2.2.1) ((s_phones.getD number.toNat default).2.2.2.1) ((s_phones.getD number.toNat default).2.2.2.2.1) ((s_phones.getD number.toNat default).2.2.2.2.2.1) ((s_phones.getD number.toNat default).2.2.2.2.2.2)) fun x4 =>
  bnd (j0 N x4 (3 : Int)) fun x5 =>
  bnd (access_first N ([x3, x5] : List Int)) fun x6 =>
  br ((x6 != (0 : Int))) (
  some x6) (
  bnd (j1 N ((s_phones.getD number.toNat default).2.2.2.2.2.1) (1 : Int) Z1d) fun x7 =>
  br (((s_phones.getD number.toNat default).1 == (1 : Int))) (
  bnd (j1 N ((s_phones.getD number.toNat default).2.2.1) (0 : Int) s_at) fun x8 =>
  bnd (grd x8 false (n1 N Z1c Z1a Z1f Z1e Z1d Z19 Z1b s_at s_phones ((s_phones.getD number.toNat default).2.2.1))) fun x9 =>
  bnd (w4 N Z1c Z1a Z1f Z1e Z1d Z19 Z1b s_at s_phones ((s_phones.getD number.toNat default).2.1)) fun x10 =>
  bnd (j0 N x10 (6 : Int)) fun x11 =>
  bnd (j0 N (((x8 && x9) && ((s_phones.getD number.toNat default).2.2.2.2.1 == w64 (((s_phones.getD number.toNat default).2.2.1) + Z1f))) && (decide ((s_phones.getD number.toNat default).2.2.2.2.1 ≥ s_at))) (22 : Int)) fun x12 =>
  bnd (j0 N x7 (2 : Int)) fun x13 =>
  bnd (access_first N ([x11, x12, x13] : List Int)) fun x14 =>
  some x14) (
  br (((s_phones.getD number.toNat default).1 == (2 : Int))) (
  bnd (p8 N Z1c Z1a Z1f Z1e Z1d Z19 Z1b s_at s_phones ((s_phones.getD number.toNat default).2.2.2.1)) fun x15 =>
  bnd (j0 N x15 (6 : Int)) fun x16 =>
  bnd (j1 N ((s_phones.getD number.toNat default).2.2.2.2.1) s_at (w64 (s_at + Z1e))) fun x17 =>
  bnd (j0 N x17 (22 : Int)) fun x18 =>
  bnd (j0 N x7 (2 : Int)) fun x19 =>
  bnd (access_held N (s_phones.take number.toNat) ((s_phones.getD number.toNat default).2.2.2.1)) fun x20 =>
  bnd (j0 N (!x20) (13 : Int)) fun x21 =>
  bnd (access_first N ([x16, x18, x19, x21] : List Int)) fun x22 =>
  some x22) (
  br (((s_phones.getD number.toNat default).1 == (3 : Int))) (
  bnd (j1 N ((s_phones.getD number.toNat default).2.2.2.2.1) (0 : Int) (w64 (s_at + Z19))) fun x23 =>
  bnd (j0 N x23 (22 : Int)) fun x24 =>
  bnd (j0 N (x7 && (decide ((s_phones.getD number.toNat default).2.2.2.2.2.1 < Z1d))) (2 : Int)) fun x25 =>
  bnd (access_first N ([x24, x25] : List Int)) fun x26 =>
  some x26) (
  br (((s_phones.getD number.toNat default).1 == (4 : Int))) (
  bnd (p8 N Z1c Z1a Z1f Z1e Z1d Z19 Z1b s_at s_phones ((s_phones.getD number.toNat default).2.2.2.1)) fun x27 =>
  bnd (j0 N x27 (6 : Int)) fun x28 =>
  bnd (access_had N (s_phones.take number.toNat) ((s_phones.getD number.toNat default).2.2.2.1)) fun x29 =>
  bnd (j0 N (!x29) (13 : Int)) fun x30 =>
  bnd (access_first N ([x28, x30] : List Int)) fun x31 =>
  some x31) (
  br (((s_phones.getD number.toNat default).1 == (5 : Int))) (
  bnd (j0 N ((s_phones.getD number.toNat default).2.2.2.2.2.1 == Z1d) (2 : Int)) fun x32 =>
  some x32) (
  some (0 : Int))))))))

def q9 (N : Nat) (s_phones : List (Int × Int × Int × Int × Int × Int × Int)) (identity : Int) (K_ : List Int → Option (List Int)) (rec : Int × List Int → Option (List Int)) : Int × List Int → Option (List Int) := fun (t13, b01) =>
  br (decide (t13 < (s_phones.length : Int))) (
  chk (0 ≤ t13 ∧ t13 < (s_phones.length : Int)) <|
  br ((((s_phones.getD t13.toNat default).1 == (2 : Int)) && ((s_phones.getD t13.toNat default).2.2.2.1 == identity))) (
  chk (b01.length + ([t13] : List Int).length ≤ 1000000000) <|
  rec (w64 (t13 + (1 : Int)), (b01 ++ ([t13] : List Int)))) (
  rec (w64 (t13 + (1 : Int)), b01))) (
  K_ b01)
def access_site_asking (N : Nat) (Z1c : Int) (Z1a : Int) (Z1f : Int) (Z1e : Int) (Z1d : Int) (Z19 : Int) (Z1b : Int) (s_at : Int) (s_phones : List (Int × Int × Int × Int × Int × Int × Int)) (identity : Int) : Option (List Int) :=
  jn (τ := List Int) (fun (b0 : List Int) =>
    some b0) fun K_ =>
  rds (q9 N s_phones identity K_) N ((0 : Int), ([] : List Int))

def ref07_formed (N : Nat) (Zx : Int) (Zv : Int) (Zw : Int) (Zs : Int) (Zz : Int) (Zy : Int) (Zq : Int) : Option Bool :=
  bnd (u5 N Zx Zq) fun (x1, x11, x12, x13, x14, x15, x16) =>
  br ((Zx == (1 : Int))) (
  some ((x1 == Zx) && ((Zv == Zv) && ((Zw == Zw) && ((x13 == Zs) && ((Zz == Zz) && ((Zy == Zy) && (x16 == Zq)))))))) (
  br ((Zx == (2 : Int))) (
  some ((x1 == Zx) && ((x11 == Zv) && ((x12 == Zw) && ((Zs == Zs) && ((Zz == Zz) && ((Zy == Zy) && (x16 == Zq)))))))) (
  br ((Zx == (3 : Int))) (
  some ((x1 == Zx) && ((x11 == Zv) && ((x12 == Zw) && ((x13 == Zs) && ((Zz == Zz) && ((Zy == Zy) && (x16 == Zq)))))))) (
  br ((Zx == (4 : Int))) (
  some ((x1 == Zx) && ((x11 == Zv) && ((x12 == Zw) && ((Zs == Zs) && ((x14 == Zz) && ((x15 == Zy) && (x16 == Zq)))))))) (
  br ((Zx == (5 : Int))) (
  some ((x1 == Zx) && ((x11 == Zv) && ((x12 == Zw) && ((x13 == Zs) && ((x14 == Zz) && ((Zy == Zy) && (x16 == Zq)))))))) (
  some ((x1 == Zx) && ((x11 == Zv) && ((x12 == Zw) && ((x13 == Zs) && ((x14 == Zz) && ((x15 == Zy) && (x16 == Zq))))))))))))

def A1 (N : Nat) (Zx : Int) (Zv : Int) (Zw : Int) (Zs : Int) (Zz : Int) (Zy : Int) (Zq : Int) (most : Int) : Option Int :=
  bnd (k4 N Zy (1 : Int) most) fun x1 =>
  br (!x1) (
  some (2 : Int)) (
  some (0 : Int))

def q0 (N : Nat) (Z15 : Int) (Z11 : Int) (Z18 : Int) (Z17 : Int) (Z16 : Int) (Z10 : Int) (Z13 : Int) (n : Int) : Option Int :=
  bnd (k4 N n (0 : Int) (w64 (Z13 - (1 : Int)))) fun x1 =>
  br (!x1) (
  some (6 : Int)) (
  some (0 : Int))

def u0 (N : Nat) (Z1o : List (Int × Int × Int × Int × Int × Int × Int)) (i : Int) (K_ : Unit → Option Int) (rec : Int → Option Int) : Int → Option Int := fun k =>
  br (decide (k < i)) (
  chk (0 ≤ k ∧ k < (Z1o.length : Int)) <|
  chk (((Z1o.getD k.toNat default).1 == (4 : Int)) = true → 0 ≤ k ∧ k < (Z1o.length : Int)) <|
  br ((((Z1o.getD k.toNat default).1 == (4 : Int)) && ((Z1o.getD k.toNat default).2.2.2.1 == (Z1o.getD i.toNat default).2.2.2.1))) (
  some (13 : Int)) (
  rec (w64 (k + (1 : Int))))) (
  K_ ())
def s9 (N : Nat) (Z1o : List (Int × Int × Int × Int × Int × Int × Int)) (i : Int) (K_ : Unit → Option Int) (rec1 : Int → Option Int) : Int → Option Int := fun k1 =>
  br (decide (k1 < i)) (
  chk (0 ≤ k1 ∧ k1 < (Z1o.length : Int)) <|
  br (((Z1o.getD k1.toNat default).2.2.2.1 == (Z1o.getD i.toNat default).2.2.2.1)) (
  some (13 : Int)) (
  rec1 (w64 (k1 + (1 : Int))))) (
  K_ ())
def ref07_phoneErr (N : Nat) (Z15 : Int) (Z11 : Int) (Z18 : Int) (Z17 : Int) (Z16 : Int) (Z10 : Int) (Z13 : Int) (Z1k : Int) (Z1o : List (Int × Int × Int × Int × Int × Int × Int)) (i : Int) : Option Int :=
  chk (0 ≤ i ∧ i < (Z1o.length : Int)) <|
  bnd (k4 N ((Z1o.getD i.toNat default).1) (0 : Int) (5 : Int)) fun x1 =>
  br (!x1) (
  some (15 : Int)) (
  bnd (ref07_isDraw N ((Z1o.getD i.toNat default).2.2.2.2.2.2)) fun x2 =>
  br (!x2) (
  some (2 : Int)) (
  bnd (ref07_formed N ((Z1o.getD i.toNat default).1) ((Z1o.getD i.toNat default).2.1) ((Z1o.getD i.toNat default).2.2.1) ((Z1o.getD i.toNat default).2.2.2.1) ((Z1o.getD i.toNat default).2.2.2.2.1) ((Z1o.getD i.toNat default).2.2.2.2.2.1) ((Z1o.getD i.toNat default).2.2.2.2.2.2)) fun x3 =>
  br (!x3) (
  some (3 : Int)) (
  jn (τ := Unit) (fun (_ : Unit) =>
    some (0 : Int)) fun K_ =>
  br (((Z1o.getD i.toNat default).1 == (1 : Int))) (
  bnd (k4 N ((Z1o.getD i.toNat default).2.1) (0 : Int) (w64 (Z15 - (1 : Int)))) fun x4 =>
  br (!x4) (
  some (6 : Int)) (
  bnd (k4 N ((Z1o.getD i.toNat default).2.2.1) (0 : Int) Z1k) fun x5 =>
  chk (x5 = true → Z11 ≠ 0) <|
  br (((((!x5) || (((Z1o.getD i.toNat default).2.2.1).tmod Z11 != (0 : Int))) || ((Z1o.getD i.toNat default).2.2.2.2.1 != w64 (((Z1o.getD i.toNat default).2.2.1) + Z18))) || (decide ((Z1o.getD i.toNat default).2.2.2.2.1 < Z1k)))) (
  some (22 : Int)) (
  bnd (A1 N ((Z1o.getD i.toNat default).1) ((Z1o.getD i.toNat default).2.1) ((Z1o.getD i.toNat default).2.2.1) ((Z1o.getD i.toNat default).2.2.2.1) ((Z1o.getD i.toNat default).2.2.2.2.1) ((Z1o.getD i.toNat default).2.2.2.2.2.1) ((Z1o.getD i.toNat default).2.2.2.2.2.2) Z16) fun x6 =>
  some x6))) (
  br (((Z1o.getD i.toNat default).1 == (2 : Int))) (
  bnd (q0 N Z15 Z11 Z18 Z17 Z16 Z10 Z13 ((Z1o.getD i.toNat default).2.2.2.1)) fun x7 =>
  br ((x7 != (0 : Int))) (
  some x7) (
  bnd (k4 N ((Z1o.getD i.toNat default).2.2.2.2.1) Z1k (w64 (Z1k + Z17))) fun x8 =>
  br (!x8) (
  some (22 : Int)) (
  bnd (A1 N ((Z1o.getD i.toNat default).1) ((Z1o.getD i.toNat default).2.1) ((Z1o.getD i.toNat default).2.2.1) ((Z1o.getD i.toNat default).2.2.2.1) ((Z1o.getD i.toNat default).2.2.2.2.1) ((Z1o.getD i.toNat default).2.2.2.2.2.1) ((Z1o.getD i.toNat default).2.2.2.2.2.2) Z16) fun x9 =>
  br ((x9 != (0 : Int))) (
  some x9) (
  rds (u0 N Z1o i K_) N (0 : Int))))) (
  br (((Z1o.getD i.toNat default).1 == (3 : Int))) (
  bnd (k4 N ((Z1o.getD i.toNat default).2.2.2.2.1) (0 : Int) (w64 (Z1k + Z10))) fun x10 =>
  br (!x10) (
  some (22 : Int)) (
  bnd (A1 N ((Z1o.getD i.toNat default).1) ((Z1o.getD i.toNat default).2.1) ((Z1o.getD i.toNat default).2.2.1) ((Z1o.getD i.toNat default).2.2.2.1) ((Z1o.getD i.toNat default).2.2.2.2.1) ((Z1o.getD i.toNat default).2.2.2.2.2.1) ((Z1o.getD i.toNat default).2.2.2.2.2.2) (w64 (Z16 - (1 : Int)))) fun x11 =>
  some x11)) (
  br (((Z1o.getD i.toNat default).1 == (4 : Int))) (
  bnd (q0 N Z15 Z11 Z18 Z17 Z16 Z10 Z13 ((Z1o.getD i.toNat default).2.2.2.1)) fun x12 =>
  br ((x12 != (0 : Int))) (
  some x12) (
  rds (s9 N Z1o i K_) N (0 : Int))) (
  br (((Z1o.getD i.toNat default).1 == (5 : Int))) (
  br (((Z1o.getD i.toNat default).2.2.2.2.2.1 != Z16)) (
  some (2 : Int)) (
  K_ ())) (
  K_ ()))))))))

def u6 (N : Nat) (Z15 : Int) (Z11 : Int) (Z18 : Int) (Z17 : Int) (Z16 : Int) (Z10 : Int) (Z13 : Int) (Z1k : Int) (Z1o : List (Int × Int × Int × Int × Int × Int × Int)) (K_ : Unit → Option Int) (rec : Int → Option Int) : Int → Option Int := fun i =>
  br (decide (i < (Z1o.length : Int))) (
  bnd (ref07_phoneErr N Z15 Z11 Z18 Z17 Z16 Z10 Z13 Z1k Z1o i) fun x2 =>
  br ((x2 != (0 : Int))) (
  some x2) (
  rec (w64 (i + (1 : Int))))) (
  K_ ())
def ref07_CheckState (N : Nat) (Z15 : Int) (Z11 : Int) (Z18 : Int) (Z17 : Int) (Z16 : Int) (Z10 : Int) (Z13 : Int) (Z1k : Int) (Z1o : List (Int × Int × Int × Int × Int × Int × Int)) : Option Int :=
  bnd (B4 N Z1k) fun x1 =>
  br ((x1 != (0 : Int))) (
  some x1) (
  br (((Z1o.length : Int) == (0 : Int))) (
  some (10 : Int)) (
  br (decide ((Z1o.length : Int) > (8 : Int))) (
  some (8 : Int)) (
  jn (τ := Unit) (fun (_ : Unit) =>
    some (0 : Int)) fun K_ =>
  rds (u6 N Z15 Z11 Z18 Z17 Z16 Z10 Z13 Z1k Z1o K_) N (0 : Int))))

def ref07_Asking.b1 (N : Nat) (Z1o : List (Int × Int × Int × Int × Int × Int × Int)) (identity : Int) (K_ : List Int → Option (List Int)) (rec : Int × List Int → Option (List Int)) : Int × List Int → Option (List Int) := fun (i, b11) =>
  br (decide (i < (Z1o.length : Int))) (
  chk (0 ≤ i ∧ i < (Z1o.length : Int)) <|
  chk (((Z1o.getD i.toNat default).1 == (2 : Int)) = true → 0 ≤ i ∧ i < (Z1o.length : Int)) <|
  br ((((Z1o.getD i.toNat default).1 == (2 : Int)) && ((Z1o.getD i.toNat default).2.2.2.1 == identity))) (
  chk (b11.length + ([i] : List Int).length ≤ 1000000000) <|
  rec (w64 (i + (1 : Int)), (b11 ++ ([i] : List Int)))) (
  rec (w64 (i + (1 : Int)), b11))) (
  K_ b11)
def ref07_Asking (N : Nat) (Z1k : Int) (Z1o : List (Int × Int × Int × Int × Int × Int × Int)) (identity : Int) : Option (List Int) :=
  jn (τ := List Int) (fun (b1 : List Int) =>
    some b1) fun K_ =>
  rds (ref07_Asking.b1 N Z1o identity K_) N ((0 : Int), ([] : List Int))

end
end Go.Sh
