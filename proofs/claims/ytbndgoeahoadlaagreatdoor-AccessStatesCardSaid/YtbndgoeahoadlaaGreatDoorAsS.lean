import Derived.Test.YtbndgoeahoadlaaGreatDoorAsH
import Derived.Test.YtbndgoeahoadlaaGreatDoorPwG5
set_option linter.all false
namespace Go.Sh
open Go.PW
noncomputable section
def access_within (N : Nat) (n : Int) (lo : Int) (hi : Int) : Option Bool :=
  some ((decide (lo ≤ n)) && (decide (n ≤ hi)))

def access_unless (N : Nat) (is_ : Bool) (e : Int) : Option Int :=
  br (is_) (
  some (0 : Int)) (
  some e)

def access_isTick (N : Nat) (n : Int) : Option Bool :=
  bnd (access_within N n (0 : Int) (1000000000 : Int)) fun x1 =>
  some x1

def access_tickErr (N : Nat) (n : Int) : Option Int :=
  bnd (access_isTick N n) fun x1 =>
  bnd (access_unless N x1 (2 : Int)) fun x2 =>
  some x2

def access_first.b1 (N : Nat) (l : List Int) (K_ : Unit → Option Int) (rec : Int → Option Int) : Int → Option Int := fun t7 =>
  br (decide (t7 < (l.length : Int))) (
  chk (0 ≤ t7 ∧ t7 < (l.length : Int)) <|
  br (((l.getD t7.toNat 0) != (0 : Int))) (
  some (l.getD t7.toNat 0)) (
  rec (w64 (t7 + (1 : Int))))) (
  K_ ())
def access_first (N : Nat) (l : List Int) : Option Int :=
  jn (τ := Unit) (fun (_ : Unit) =>
    some (0 : Int)) fun K_ =>
  rds (access_first.b1 N l K_) N (0 : Int)

def base_Within (N : Nat) (n : Int) (lo : Int) (hi : Int) : Option Bool :=
  some ((decide (lo ≤ n)) && (decide (n ≤ hi)))

def ref07_TickErr (N : Nat) (n : Int) : Option Int :=
  bnd (base_Within N n (0 : Int) (1000000000 : Int)) fun x1 =>
  br (!x1) (
  some (2 : Int)) (
  some (0 : Int))

def access_CheckRules (N : Nat) (Zs : Int) (Zo : Int) (Zv : Int) (Zu : Int) (Zt : Int) (Zn : Int) (Zq : Int) : Option Int :=
  jn (τ := Unit) (fun (_ : Unit) =>
    some (0 : Int)) fun K_ =>
  bnd (access_within N Zs (1 : Int) (8 : Int)) fun x1 =>
  br (!x1) (
  some (2 : Int)) (
  bnd (access_within N Zo (1 : Int) (100 : Int)) fun x2 =>
  br (!x2) (
  some (2 : Int)) (
  bnd (access_within N Zv (1 : Int) (100 : Int)) fun x3 =>
  br (!x3) (
  some (2 : Int)) (
  bnd (access_within N Zu (1 : Int) (100 : Int)) fun x4 =>
  br (!x4) (
  some (2 : Int)) (
  bnd (access_within N Zt (1 : Int) (10 : Int)) fun x5 =>
  br (!x5) (
  some (2 : Int)) (
  bnd (access_within N Zn (0 : Int) (1000 : Int)) fun x6 =>
  br (!x6) (
  some (2 : Int)) (
  bnd (access_within N Zq (1 : Int) (16 : Int)) fun x7 =>
  br (!x7) (
  some (2 : Int)) (
  K_ ())))))))

def access_phonesErr (N : Nat) (n : Int) : Option Int :=
  bnd (access_unless N (decide (n > (0 : Int))) (10 : Int)) fun x1 =>
  bnd (access_unless N (decide (n ≤ (8 : Int))) (8 : Int)) fun x2 =>
  bnd (access_first N ([x1, x2] : List Int)) fun x3 =>
  some x3

def access_isDraw (N : Nat) (n : Int) : Option Bool :=
  bnd (access_within N n (0 : Int) (998244352 : Int)) fun x1 =>
  some x1

def ref07_CheckRules (N : Nat) (Zs : Int) (Zo : Int) (Zv : Int) (Zu : Int) (Zt : Int) (Zn : Int) (Zq : Int) : Option Int :=
  bnd (base_Within N Zs (1 : Int) (8 : Int)) fun x1 =>
  bnd (grd x1 false (base_Within N Zo (1 : Int) (100 : Int))) fun x2 =>
  bnd (grd (!((!x1) || (!x2))) false (base_Within N Zv (1 : Int) (100 : Int))) fun x3 =>
  bnd (grd (!(((!x1) || (!x2)) || (!x3))) false (base_Within N Zu (1 : Int) (100 : Int))) fun x4 =>
  bnd (grd (!((((!x1) || (!x2)) || (!x3)) || (!x4))) false (base_Within N Zt (1 : Int) (10 : Int))) fun x5 =>
  bnd (grd (!(((((!x1) || (!x2)) || (!x3)) || (!x4)) || (!x5))) false (base_Within N Zn (0 : Int) (1000 : Int))) fun x6 =>
  bnd (grd (!((((((!x1) || (!x2)) || (!x3)) || (!x4)) || (!x5)) || (!x6))) false (base_Within N Zq (1 : Int) (16 : Int))) fun x7 =>
  br ((((((((!x1) || (!x2)) || (!x3)) || (!x4)) || (!x5)) || (!x6)) || (!x7))) (
  some (2 : Int)) (
  some (0 : Int))

def ref07_isDraw (N : Nat) (n : Int) : Option Bool :=
  bnd (base_Within N n (0 : Int) (998244352 : Int)) fun x1 =>
  some x1

def ref07_plain (N : Nat) (stage : Int) (draw : Int) : Option (Int × Int × Int × Int × Int × Int × Int) :=
  some (stage, (-1 : Int), (0 : Int), (-1 : Int), (0 : Int), (0 : Int), draw)

def law07_Few (N : Nat) (Z17 : Int) (Z1b : List (Int × Int × Int × Int × Int × Int × Int)) : Option Bool :=
  some (decide ((Z1b.length : Int) ≤ (10 : Int)))

def ref07_Copy (N : Nat) (Z17 : Int) (Z1b : List (Int × Int × Int × Int × Int × Int × Int)) : Option (Int × (List (Int × Int × Int × Int × Int × Int × Int))) :=
  chk (Z1b.length ≤ 1000000000) <|
  some (Z17, Z1b)

def access_fits (N : Nat) (Zk : Int) (Zi : Int) (Zj : Int) (Zf : Int) (Zm : Int) (Zl : Int) (Zd : Int) : Option Bool :=
  chk (0 ≤ Zk ∧ Zk < 6) <|
  br (Zk == (0 : Int)) (
    jn (τ := Unit) (fun (_ : Unit) =>
      jn (τ := Unit) (fun (_ : Unit) =>
        jn (τ := Unit) (fun (_ : Unit) =>
          br (true) (
          some (((0 : Int) == (0 : Int)) && ((Zi == (-1 : Int)) && ((Zj == (0 : Int)) && ((Zf == (-1 : Int)) && ((Zm == (0 : Int)) && ((Zl == (0 : Int)) && (Zd == Zd)))))))) (
          none)) fun K_2 =>
        br (true) (
        K_2 ()) (
        none)) fun K_1 =>
      br (true) (
      K_1 ()) (
      none)) fun K_ =>
    br (true) (
    K_ ()) (
    none)) (
  br (Zk == (1 : Int)) (
    jn (τ := Unit) (fun (_ : Unit) =>
      jn (τ := Unit) (fun (_ : Unit) =>
        jn (τ := Unit) (fun (_ : Unit) =>
          br (false) (
          none) (
          some (((1 : Int) == (1 : Int)) && ((Zi == Zi) && ((Zj == Zj) && ((Zf == (-1 : Int)) && ((Zm == Zm) && ((Zl == Zl) && (Zd == Zd))))))))) fun K_5 =>
        br (false) (
        none) (
        K_5 ())) fun K_4 =>
      br (true) (
      K_4 ()) (
      none)) fun K_3 =>
    br (false) (
    none) (
    K_3 ())) (
  br (Zk == (2 : Int)) (
    jn (τ := Unit) (fun (_ : Unit) =>
      jn (τ := Unit) (fun (_ : Unit) =>
        jn (τ := Unit) (fun (_ : Unit) =>
          br (false) (
          none) (
          some (((2 : Int) == (2 : Int)) && ((Zi == (-1 : Int)) && ((Zj == (0 : Int)) && ((Zf == Zf) && ((Zm == Zm) && ((Zl == Zl) && (Zd == Zd))))))))) fun K_8 =>
        br (false) (
        none) (
        K_8 ())) fun K_7 =>
      br (false) (
      none) (
      K_7 ())) fun K_6 =>
    br (true) (
    K_6 ()) (
    none)) (
  br (Zk == (3 : Int)) (
    jn (τ := Unit) (fun (_ : Unit) =>
      jn (τ := Unit) (fun (_ : Unit) =>
        jn (τ := Unit) (fun (_ : Unit) =>
          br (false) (
          none) (
          some (((3 : Int) == (3 : Int)) && ((Zi == (-1 : Int)) && ((Zj == (0 : Int)) && ((Zf == (-1 : Int)) && ((Zm == Zm) && ((Zl == Zl) && (Zd == Zd))))))))) fun K_11 =>
        br (false) (
        none) (
        K_11 ())) fun K_10 =>
      br (true) (
      K_10 ()) (
      none)) fun K_9 =>
    br (true) (
    K_9 ()) (
    none)) (
  br (Zk == (4 : Int)) (
    jn (τ := Unit) (fun (_ : Unit) =>
      jn (τ := Unit) (fun (_ : Unit) =>
        jn (τ := Unit) (fun (_ : Unit) =>
          br (true) (
          some (((4 : Int) == (4 : Int)) && ((Zi == (-1 : Int)) && ((Zj == (0 : Int)) && ((Zf == Zf) && ((Zm == (0 : Int)) && ((Zl == (0 : Int)) && (Zd == Zd)))))))) (
          none)) fun K_14 =>
        br (true) (
        K_14 ()) (
        none)) fun K_13 =>
      br (false) (
      none) (
      K_13 ())) fun K_12 =>
    br (true) (
    K_12 ()) (
    none)) (
  br (Zk == (5 : Int)) (
    jn (τ := Unit) (fun (_ : Unit) =>
      jn (τ := Unit) (fun (_ : Unit) =>
        jn (τ := Unit) (fun (_ : Unit) =>
          br (false) (
          none) (
          some (((5 : Int) == (5 : Int)) && ((Zi == (-1 : Int)) && ((Zj == (0 : Int)) && ((Zf == (-1 : Int)) && ((Zm == (0 : Int)) && ((Zl == Zl) && (Zd == Zd))))))))) fun K_17 =>
        br (true) (
        K_17 ()) (
        none)) fun K_16 =>
      br (true) (
      K_16 ()) (
      none)) fun K_15 =>
    br (true) (
    K_15 ()) (
    none)) (
  none))))))

def access_site_isChance (N : Nat) (Zz : Int) (Zx : Int) (Z12 : Int) (Z11 : Int) (Z10 : Int) (Zw : Int) (Zy : Int) (s_at : Int) (s_phones : List (Int × Int × Int × Int × Int × Int × Int)) (tick : Int) : Option Bool :=
  chk (Zx ≠ 0) <|
  some (tick.tmod Zx == (0 : Int))

def access_site_isPreamble (N : Nat) (Zz : Int) (Zx : Int) (Z12 : Int) (Z11 : Int) (Z10 : Int) (Zw : Int) (Zy : Int) (s_at : Int) (s_phones : List (Int × Int × Int × Int × Int × Int × Int)) (n : Int) : Option Bool :=
  bnd (access_within N n (0 : Int) (w64 (Zz - (1 : Int)))) fun x1 =>
  some x1

def access_site_isIdentity (N : Nat) (Zz : Int) (Zx : Int) (Z12 : Int) (Z11 : Int) (Z10 : Int) (Zw : Int) (Zy : Int) (s_at : Int) (s_phones : List (Int × Int × Int × Int × Int × Int × Int)) (n : Int) : Option Bool :=
  bnd (access_within N n (0 : Int) (w64 (Zy - (1 : Int)))) fun x1 =>
  some x1

def access_held_1 (N : Nat) (Zk : Int) (Zi : Int) (Zj : Int) (Zf : Int) (Zm : Int) (Zl : Int) (Zd : Int) (a1 : Int) : Option Bool :=
  some ((Zk == (4 : Int)) && (Zf == a1))

def slices_IndexFunc_api_AccessPhone_api_AccessPhone.b1 (N : Nat) (s : List (Int × Int × Int × Int × Int × Int × Int)) (f : Int → Int → Int → Int → Int → Int → Int → Option Bool) (K_ : Unit → Option Int) (rec : Int → Option Int) : Int → Option Int := fun t8 =>
  br (decide (t8 < (s.length : Int))) (
  chk (0 ≤ t8 ∧ t8 < (s.length : Int)) <|
  bnd (f ((s.getD t8.toNat default).1) ((s.getD t8.toNat default).2.1) ((s.getD t8.toNat default).2.2.1) ((s.getD t8.toNat default).2.2.2.1) ((s.getD t8.toNat default).2.2.2.2.1) ((s.getD t8.toNat default).2.2.2.2.2.1) ((s.getD t8.toNat default).2.2.2.2.2.2)) fun x1 =>
  br (x1) (
  some t8) (
  rec (w64 (t8 + (1 : Int))))) (
  K_ ())
def slices_IndexFunc_api_AccessPhone_api_AccessPhone (N : Nat) (s : List (Int × Int × Int × Int × Int × Int × Int)) (f : Int → Int → Int → Int → Int → Int → Int → Option Bool) : Option Int :=
  jn (τ := Unit) (fun (_ : Unit) =>
    some (-1 : Int)) fun K_ =>
  rds (slices_IndexFunc_api_AccessPhone_api_AccessPhone.b1 N s f K_) N (0 : Int)

def slices_ContainsFunc_api_AccessPhone_api_AccessPhone (N : Nat) (s : List (Int × Int × Int × Int × Int × Int × Int)) (f : Int → Int → Int → Int → Int → Int → Int → Option Bool) : Option Bool :=
  bnd (slices_IndexFunc_api_AccessPhone_api_AccessPhone N s f) fun x1 =>
  some (decide (x1 ≥ (0 : Int)))

def access_held (N : Nat) (l : List (Int × Int × Int × Int × Int × Int × Int)) (identity : Int) : Option Bool :=
  bnd (slices_ContainsFunc_api_AccessPhone_api_AccessPhone N l (fun y0 y1 y2 y3 y4 y5 y6 => access_held_1 N y0 y1 y2 y3 y4 y5 y6 identity)) fun x1 =>
  some x1

def access_had_1 (N : Nat) (Zk : Int) (Zi : Int) (Zj : Int) (Zf : Int) (Zm : Int) (Zl : Int) (Zd : Int) (a1 : Int) : Option Bool :=
  some (Zf == a1)

def access_had (N : Nat) (l : List (Int × Int × Int × Int × Int × Int × Int)) (identity : Int) : Option Bool :=
  bnd (slices_ContainsFunc_api_AccessPhone_api_AccessPhone N l (fun y0 y1 y2 y3 y4 y5 y6 => access_had_1 N y0 y1 y2 y3 y4 y5 y6 identity)) fun x1 =>
  some x1

def access_site_phoneErr (N : Nat) (Zz : Int) (Zx : Int) (Z12 : Int) (Z11 : Int) (Z10 : Int) (Zw : Int) (Zy : Int) (s_at : Int) (s_phones : List (Int × Int × Int × Int × Int × Int × Int)) (number : Int) : Option Int :=
  chk (0 ≤ number ∧ number < (s_phones.length : Int)) <|
  chk (0 ≤ (0 : Int) ∧ (0 : Int) ≤ number ∧ number ≤ (s_phones.length : Int)) <|
  bnd (access_within N ((s_phones.getD number.toNat default).1) (0 : Int) (5 : Int)) fun x1 =>
  br (!x1) (
  some (15 : Int)) (
  bnd (access_isDraw N ((s_phones.getD number.toNat default).2.2.2.2.2.2)) fun x2 =>
  bnd (access_unless N x2 (2 : Int)) fun x3 =>
  bnd (access_fits N ((s_phones.getD number.toNat default).1) ((s_phones.getD number.toNat default).2.1) ((s_phones.getD number.toNat default).2.2.1) ((s_phones.getD number.toNat default).2.2.2.1) ((s_phones.getD number.toNat default).2.2.2.2.1) ((s_phones.getD number.toNat default).2.2.2.2.2.1) ((s_phones.getD number.toNat default).2.2.2.2.2.2)) fun x4 =>
  bnd (access_unless N x4 (3 : Int)) fun x5 =>
  bnd (access_first N ([x3, x5] : List Int)) fun x6 =>
  br ((x6 != (0 : Int))) (
  some x6) (
  bnd (access_within N ((s_phones.getD number.toNat default).2.2.2.2.2.1) (1 : Int) Z10) fun x7 =>
  br (((s_phones.getD number.toNat default).1 == (1 : Int))) (
  bnd (access_within N ((s_phones.getD number.toNat default).2.2.1) (0 : Int) s_at) fun x8 =>
  bnd (grd x8 false (access_site_isChance N Zz Zx Z12 Z11 Z10 Zw Zy s_at s_phones ((s_phones.getD number.toNat default).2.2.1))) fun x9 =>
  bnd (access_site_isPreamble N Zz Zx Z12 Z11 Z10 Zw Zy s_at s_phones ((s_phones.getD number.toNat default).2.1)) fun x10 =>
  bnd (access_unless N x10 (6 : Int)) fun x11 =>
  bnd (access_unless N (((x8 && x9) && ((s_phones.getD number.toNat default).2.2.2.2.1 == w64 (((s_phones.getD number.toNat default).2.2.1) + Z12))) && (decide ((s_phones.getD number.toNat default).2.2.2.2.1 ≥ s_at))) (22 : Int)) fun x12 =>
  bnd (access_unless N x7 (2 : Int)) fun x13 =>
  bnd (access_first N ([x11, x12, x13] : List Int)) fun x14 =>
  some x14) (
  br (((s_phones.getD number.toNat default).1 == (2 : Int))) (
  bnd (access_site_isIdentity N Zz Zx Z12 Z11 Z10 Zw Zy s_at s_phones ((s_phones.getD number.toNat default).2.2.2.1)) fun x15 =>
  bnd (access_unless N x15 (6 : Int)) fun x16 =>
  bnd (access_within N ((s_phones.getD number.toNat default).2.2.2.2.1) s_at (w64 (s_at + Z11))) fun x17 =>
  bnd (access_unless N x17 (22 : Int)) fun x18 =>
  bnd (access_unless N x7 (2 : Int)) fun x19 =>
  bnd (access_held N (s_phones.take number.toNat) ((s_phones.getD number.toNat default).2.2.2.1)) fun x20 =>
  bnd (access_unless N (!x20) (13 : Int)) fun x21 =>
  bnd (access_first N ([x16, x18, x19, x21] : List Int)) fun x22 =>
  some x22) (
  br (((s_phones.getD number.toNat default).1 == (3 : Int))) (
  bnd (access_within N ((s_phones.getD number.toNat default).2.2.2.2.1) (0 : Int) (w64 (s_at + Zw))) fun x23 =>
  bnd (access_unless N x23 (22 : Int)) fun x24 =>
  bnd (access_unless N (x7 && (decide ((s_phones.getD number.toNat default).2.2.2.2.2.1 < Z10))) (2 : Int)) fun x25 =>
  bnd (access_first N ([x24, x25] : List Int)) fun x26 =>
  some x26) (
  br (((s_phones.getD number.toNat default).1 == (4 : Int))) (
  bnd (access_site_isIdentity N Zz Zx Z12 Z11 Z10 Zw Zy s_at s_phones ((s_phones.getD number.toNat default).2.2.2.1)) fun x27 =>
  bnd (access_unless N x27 (6 : Int)) fun x28 =>
  bnd (access_had N (s_phones.take number.toNat) ((s_phones.getD number.toNat default).2.2.2.1)) fun x29 =>
  bnd (access_unless N (!x29) (13 : Int)) fun x30 =>
  bnd (access_first N ([x28, x30] : List Int)) fun x31 =>
  some x31) (
  br (((s_phones.getD number.toNat default).1 == (5 : Int))) (
  bnd (access_unless N ((s_phones.getD number.toNat default).2.2.2.2.2.1 == Z10) (2 : Int)) fun x32 =>
  some x32) (
  some (0 : Int))))))))

def ref07_formed (N : Nat) (Zk : Int) (Zi : Int) (Zj : Int) (Zf : Int) (Zm : Int) (Zl : Int) (Zd : Int) : Option Bool :=
  bnd (ref07_plain N Zk Zd) fun (x1, x11, x12, x13, x14, x15, x16) =>
  br ((Zk == (1 : Int))) (
  some ((x1 == Zk) && ((Zi == Zi) && ((Zj == Zj) && ((x13 == Zf) && ((Zm == Zm) && ((Zl == Zl) && (x16 == Zd)))))))) (
  br ((Zk == (2 : Int))) (
  some ((x1 == Zk) && ((x11 == Zi) && ((x12 == Zj) && ((Zf == Zf) && ((Zm == Zm) && ((Zl == Zl) && (x16 == Zd)))))))) (
  br ((Zk == (3 : Int))) (
  some ((x1 == Zk) && ((x11 == Zi) && ((x12 == Zj) && ((x13 == Zf) && ((Zm == Zm) && ((Zl == Zl) && (x16 == Zd)))))))) (
  br ((Zk == (4 : Int))) (
  some ((x1 == Zk) && ((x11 == Zi) && ((x12 == Zj) && ((Zf == Zf) && ((x14 == Zm) && ((x15 == Zl) && (x16 == Zd)))))))) (
  br ((Zk == (5 : Int))) (
  some ((x1 == Zk) && ((x11 == Zi) && ((x12 == Zj) && ((x13 == Zf) && ((x14 == Zm) && ((Zl == Zl) && (x16 == Zd)))))))) (
  some ((x1 == Zk) && ((x11 == Zi) && ((x12 == Zj) && ((x13 == Zf) && ((x14 == Zm) && ((x15 == Zl) && (x16 == Zd))))))))))))

def ref07_triesErr (N : Nat) (Zk : Int) (Zi : Int) (Zj : Int) (Zf : Int) (Zm : Int) (Zl : Int) (Zd : Int) (most : Int) : Option Int :=
  bnd (base_Within N Zl (1 : Int) most) fun x1 =>
  br (!x1) (
  some (2 : Int)) (
  some (0 : Int))

def ref07_IdentityErr (N : Nat) (Zs : Int) (Zo : Int) (Zv : Int) (Zu : Int) (Zt : Int) (Zn : Int) (Zq : Int) (n : Int) : Option Int :=
  bnd (base_Within N n (0 : Int) (w64 (Zq - (1 : Int)))) fun x1 =>
  br (!x1) (
  some (6 : Int)) (
  some (0 : Int))

def ref07_phoneErr.b1 (N : Nat) (Z1b : List (Int × Int × Int × Int × Int × Int × Int)) (i : Int) (K_ : Unit → Option Int) (rec : Int → Option Int) : Int → Option Int := fun k =>
  br (decide (k < i)) (
  chk (0 ≤ k ∧ k < (Z1b.length : Int)) <|
  chk (((Z1b.getD k.toNat default).1 == (4 : Int)) = true → 0 ≤ k ∧ k < (Z1b.length : Int)) <|
  br ((((Z1b.getD k.toNat default).1 == (4 : Int)) && ((Z1b.getD k.toNat default).2.2.2.1 == (Z1b.getD i.toNat default).2.2.2.1))) (
  some (13 : Int)) (
  rec (w64 (k + (1 : Int))))) (
  K_ ())
def ref07_phoneErr.b2 (N : Nat) (Z1b : List (Int × Int × Int × Int × Int × Int × Int)) (i : Int) (K_ : Unit → Option Int) (rec1 : Int → Option Int) : Int → Option Int := fun k1 =>
  br (decide (k1 < i)) (
  chk (0 ≤ k1 ∧ k1 < (Z1b.length : Int)) <|
  br (((Z1b.getD k1.toNat default).2.2.2.1 == (Z1b.getD i.toNat default).2.2.2.1)) (
  some (13 : Int)) (
  rec1 (w64 (k1 + (1 : Int))))) (
  K_ ())
def ref07_phoneErr (N : Nat) (Zs : Int) (Zo : Int) (Zv : Int) (Zu : Int) (Zt : Int) (Zn : Int) (Zq : Int) (Z17 : Int) (Z1b : List (Int × Int × Int × Int × Int × Int × Int)) (i : Int) : Option Int :=
  chk (0 ≤ i ∧ i < (Z1b.length : Int)) <|
  bnd (base_Within N ((Z1b.getD i.toNat default).1) (0 : Int) (5 : Int)) fun x1 =>
  br (!x1) (
  some (15 : Int)) (
  bnd (ref07_isDraw N ((Z1b.getD i.toNat default).2.2.2.2.2.2)) fun x2 =>
  br (!x2) (
  some (2 : Int)) (
  bnd (ref07_formed N ((Z1b.getD i.toNat default).1) ((Z1b.getD i.toNat default).2.1) ((Z1b.getD i.toNat default).2.2.1) ((Z1b.getD i.toNat default).2.2.2.1) ((Z1b.getD i.toNat default).2.2.2.2.1) ((Z1b.getD i.toNat default).2.2.2.2.2.1) ((Z1b.getD i.toNat default).2.2.2.2.2.2)) fun x3 =>
  br (!x3) (
  some (3 : Int)) (
  jn (τ := Unit) (fun (_ : Unit) =>
    some (0 : Int)) fun K_ =>
  br (((Z1b.getD i.toNat default).1 == (1 : Int))) (
  bnd (base_Within N ((Z1b.getD i.toNat default).2.1) (0 : Int) (w64 (Zs - (1 : Int)))) fun x4 =>
  br (!x4) (
  some (6 : Int)) (
  bnd (base_Within N ((Z1b.getD i.toNat default).2.2.1) (0 : Int) Z17) fun x5 =>
  chk (x5 = true → Zo ≠ 0) <|
  br (((((!x5) || (((Z1b.getD i.toNat default).2.2.1).tmod Zo != (0 : Int))) || ((Z1b.getD i.toNat default).2.2.2.2.1 != w64 (((Z1b.getD i.toNat default).2.2.1) + Zv))) || (decide ((Z1b.getD i.toNat default).2.2.2.2.1 < Z17)))) (
  some (22 : Int)) (
  bnd (ref07_triesErr N ((Z1b.getD i.toNat default).1) ((Z1b.getD i.toNat default).2.1) ((Z1b.getD i.toNat default).2.2.1) ((Z1b.getD i.toNat default).2.2.2.1) ((Z1b.getD i.toNat default).2.2.2.2.1) ((Z1b.getD i.toNat default).2.2.2.2.2.1) ((Z1b.getD i.toNat default).2.2.2.2.2.2) Zt) fun x6 =>
  some x6))) (
  br (((Z1b.getD i.toNat default).1 == (2 : Int))) (
  bnd (ref07_IdentityErr N Zs Zo Zv Zu Zt Zn Zq ((Z1b.getD i.toNat default).2.2.2.1)) fun x7 =>
  br ((x7 != (0 : Int))) (
  some x7) (
  bnd (base_Within N ((Z1b.getD i.toNat default).2.2.2.2.1) Z17 (w64 (Z17 + Zu))) fun x8 =>
  br (!x8) (
  some (22 : Int)) (
  bnd (ref07_triesErr N ((Z1b.getD i.toNat default).1) ((Z1b.getD i.toNat default).2.1) ((Z1b.getD i.toNat default).2.2.1) ((Z1b.getD i.toNat default).2.2.2.1) ((Z1b.getD i.toNat default).2.2.2.2.1) ((Z1b.getD i.toNat default).2.2.2.2.2.1) ((Z1b.getD i.toNat default).2.2.2.2.2.2) Zt) fun x9 =>
  br ((x9 != (0 : Int))) (
  some x9) (
  rds (ref07_phoneErr.b1 N Z1b i K_) N (0 : Int))))) (
  br (((Z1b.getD i.toNat default).1 == (3 : Int))) (
  bnd (base_Within N ((Z1b.getD i.toNat default).2.2.2.2.1) (0 : Int) (w64 (Z17 + Zn))) fun x10 =>
  br (!x10) (
  some (22 : Int)) (
  bnd (ref07_triesErr N ((Z1b.getD i.toNat default).1) ((Z1b.getD i.toNat default).2.1) ((Z1b.getD i.toNat default).2.2.1) ((Z1b.getD i.toNat default).2.2.2.1) ((Z1b.getD i.toNat default).2.2.2.2.1) ((Z1b.getD i.toNat default).2.2.2.2.2.1) ((Z1b.getD i.toNat default).2.2.2.2.2.2) (w64 (Zt - (1 : Int)))) fun x11 =>
  some x11)) (
  br (((Z1b.getD i.toNat default).1 == (4 : Int))) (
  bnd (ref07_IdentityErr N Zs Zo Zv Zu Zt Zn Zq ((Z1b.getD i.toNat default).2.2.2.1)) fun x12 =>
  br ((x12 != (0 : Int))) (
  some x12) (
  rds (ref07_phoneErr.b2 N Z1b i K_) N (0 : Int))) (
  br (((Z1b.getD i.toNat default).1 == (5 : Int))) (
  br (((Z1b.getD i.toNat default).2.2.2.2.2.1 != Zt)) (
  some (2 : Int)) (
  K_ ())) (
  K_ ()))))))))

def ref07_CheckState.b1 (N : Nat) (Zs : Int) (Zo : Int) (Zv : Int) (Zu : Int) (Zt : Int) (Zn : Int) (Zq : Int) (Z17 : Int) (Z1b : List (Int × Int × Int × Int × Int × Int × Int)) (K_ : Unit → Option Int) (rec : Int → Option Int) : Int → Option Int := fun i =>
  br (decide (i < (Z1b.length : Int))) (
  bnd (ref07_phoneErr N Zs Zo Zv Zu Zt Zn Zq Z17 Z1b i) fun x2 =>
  br ((x2 != (0 : Int))) (
  some x2) (
  rec (w64 (i + (1 : Int))))) (
  K_ ())
def ref07_CheckState (N : Nat) (Zs : Int) (Zo : Int) (Zv : Int) (Zu : Int) (Zt : Int) (Zn : Int) (Zq : Int) (Z17 : Int) (Z1b : List (Int × Int × Int × Int × Int × Int × Int)) : Option Int :=
  bnd (ref07_TickErr N Z17) fun x1 =>
  br ((x1 != (0 : Int))) (
  some x1) (
  br (((Z1b.length : Int) == (0 : Int))) (
  some (10 : Int)) (
  br (decide ((Z1b.length : Int) > (8 : Int))) (
  some (8 : Int)) (
  jn (τ := Unit) (fun (_ : Unit) =>
    some (0 : Int)) fun K_ =>
  rds (ref07_CheckState.b1 N Zs Zo Zv Zu Zt Zn Zq Z17 Z1b K_) N (0 : Int))))

end
end Go.Sh
