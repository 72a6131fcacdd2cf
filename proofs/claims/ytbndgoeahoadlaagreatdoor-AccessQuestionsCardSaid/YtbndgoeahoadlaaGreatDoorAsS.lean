import Derived.Test.YtbndgoeahoadlaaGreatDoorAsH
import Derived.Test.YtbndgoeahoadlaaGreatDoorPwG5
set_option linter.all false
namespace Go.Sh
open Go.PW
noncomputable section
def access_within (N : Nat) (n : Int) (lo : Int) (hi : Int) : Option Bool :=
  some ((decide (lo ≤ n)) && (decide (n ≤ hi)))

def access_unless (N : Nat) (is_ : Bool) (e : Int) : Option Int :=
  br (is_) (
  some (0 : Int)) (
  some e)

def access_isTick (N : Nat) (n : Int) : Option Bool :=
  bnd (access_within N n (0 : Int) (1000000000 : Int)) fun x1 =>
  some x1

def access_tickErr (N : Nat) (n : Int) : Option Int :=
  bnd (access_isTick N n) fun x1 =>
  bnd (access_unless N x1 (2 : Int)) fun x2 =>
  some x2

def access_first.b1 (N : Nat) (l : List Int) (K_ : Unit → Option Int) (rec : Int → Option Int) : Int → Option Int := fun t7 =>
  br (decide (t7 < (l.length : Int))) (
  chk (0 ≤ t7 ∧ t7 < (l.length : Int)) <|
  br (((l.getD t7.toNat 0) != (0 : Int))) (
  some (l.getD t7.toNat 0)) (
  rec (w64 (t7 + (1 : Int))))) (
  K_ ())
def access_first (N : Nat) (l : List Int) : Option Int :=
  jn (τ := Unit) (fun (_ : Unit) =>
    some (0 : Int)) fun K_ =>
  rds (access_first.b1 N l K_) N (0 : Int)

def base_Within (N : Nat) (n : Int) (lo : Int) (hi : Int) : Option Bool :=
  some ((decide (lo ≤ n)) && (decide (n ≤ hi)))

def ref07_TickErr (N : Nat) (n : Int) : Option Int :=
  bnd (base_Within N n (0 : Int) (1000000000 : Int)) fun x1 =>
  br (!x1) (
  some (2 : Int)) (
  some (0 : Int))

def base_Floor (N : Nat) (n : Int) (by_ : Int) : Option Int :=
  chk (by_ ≠ 0) <|
  chk (by_ ≠ 0) <|
  br (decide (n.tmod by_ < (0 : Int))) (
  some (w64 ((w64 (n.tdiv by_)) - (1 : Int)))) (
  some (w64 (n.tdiv by_)))

def access_CheckRules (N : Nat) (Zm : Int) (Zi : Int) (Zp : Int) (Zo : Int) (Zn : Int) (Zh : Int) (Zk : Int) : Option Int :=
  jn (τ := Unit) (fun (_ : Unit) =>
    some (0 : Int)) fun K_ =>
  bnd (access_within N Zm (1 : Int) (8 : Int)) fun x1 =>
  br (!x1) (
  some (2 : Int)) (
  bnd (access_within N Zi (1 : Int) (100 : Int)) fun x2 =>
  br (!x2) (
  some (2 : Int)) (
  bnd (access_within N Zp (1 : Int) (100 : Int)) fun x3 =>
  br (!x3) (
  some (2 : Int)) (
  bnd (access_within N Zo (1 : Int) (100 : Int)) fun x4 =>
  br (!x4) (
  some (2 : Int)) (
  bnd (access_within N Zn (1 : Int) (10 : Int)) fun x5 =>
  br (!x5) (
  some (2 : Int)) (
  bnd (access_within N Zh (0 : Int) (1000 : Int)) fun x6 =>
  br (!x6) (
  some (2 : Int)) (
  bnd (access_within N Zk (1 : Int) (16 : Int)) fun x7 =>
  br (!x7) (
  some (2 : Int)) (
  K_ ())))))))

def access_phonesErr (N : Nat) (n : Int) : Option Int :=
  bnd (access_unless N (decide (n > (0 : Int))) (10 : Int)) fun x1 =>
  bnd (access_unless N (decide (n ≤ (8 : Int))) (8 : Int)) fun x2 =>
  bnd (access_first N ([x1, x2] : List Int)) fun x3 =>
  some x3

def access_isDraw (N : Nat) (n : Int) : Option Bool :=
  bnd (access_within N n (0 : Int) (998244352 : Int)) fun x1 =>
  some x1

def ref07_CheckRules (N : Nat) (Zm : Int) (Zi : Int) (Zp : Int) (Zo : Int) (Zn : Int) (Zh : Int) (Zk : Int) : Option Int :=
  bnd (base_Within N Zm (1 : Int) (8 : Int)) fun x1 =>
  bnd (grd x1 false (base_Within N Zi (1 : Int) (100 : Int))) fun x2 =>
  bnd (grd (!((!x1) || (!x2))) false (base_Within N Zp (1 : Int) (100 : Int))) fun x3 =>
  bnd (grd (!(((!x1) || (!x2)) || (!x3))) false (base_Within N Zo (1 : Int) (100 : Int))) fun x4 =>
  bnd (grd (!((((!x1) || (!x2)) || (!x3)) || (!x4))) false (base_Within N Zn (1 : Int) (10 : Int))) fun x5 =>
  bnd (grd (!(((((!x1) || (!x2)) || (!x3)) || (!x4)) || (!x5))) false (base_Within N Zh (0 : Int) (1000 : Int))) fun x6 =>
  bnd (grd (!((((((!x1) || (!x2)) || (!x3)) || (!x4)) || (!x5)) || (!x6))) false (base_Within N Zk (1 : Int) (16 : Int))) fun x7 =>
  br ((((((((!x1) || (!x2)) || (!x3)) || (!x4)) || (!x5)) || (!x6)) || (!x7))) (
  some (2 : Int)) (
  some (0 : Int))

def ref07_isDraw (N : Nat) (n : Int) : Option Bool :=
  bnd (base_Within N n (0 : Int) (998244352 : Int)) fun x1 =>
  some x1

def ref07_plain (N : Nat) (stage : Int) (draw : Int) : Option (Int × Int × Int × Int × Int × Int × Int) :=
  some (stage, (-1 : Int), (0 : Int), (-1 : Int), (0 : Int), (0 : Int), draw)

def law07_Few (N : Nat) (Z11 : Int) (Z15 : List (Int × Int × Int × Int × Int × Int × Int)) : Option Bool :=
  some (decide ((Z15.length : Int) ≤ (10 : Int)))

def access_NextChance (N : Nat) (Zm : Int) (Zi : Int) (Zp : Int) (Zo : Int) (Zn : Int) (Zh : Int) (Zk : Int) (tick : Int) : Option (Int × Int) :=
  bnd (access_CheckRules N Zm Zi Zp Zo Zn Zh Zk) fun x1 =>
  bnd (access_tickErr N tick) fun x2 =>
  bnd (access_first N ([x1, x2] : List Int)) fun x3 =>
  br ((x3 != (0 : Int))) (
  some ((0 : Int), x3)) (
  chk (Zi ≠ 0) <|
  br (decide (w64 ((w64 ((w64 ((w64 (tick + Zi)) - (1 : Int))).tdiv Zi)) * Zi) > (1000000000 : Int))) (
  some ((0 : Int), (12 : Int))) (
  some (w64 ((w64 ((w64 ((w64 (tick + Zi)) - (1 : Int))).tdiv Zi)) * Zi), (0 : Int))))

def ref07_Copy (N : Nat) (Z11 : Int) (Z15 : List (Int × Int × Int × Int × Int × Int × Int)) : Option (Int × (List (Int × Int × Int × Int × Int × Int × Int))) :=
  chk (Z15.length ≤ 1000000000) <|
  some (Z11, Z15)

def access_fits (N : Nat) (Ze : Int) (Zc : Int) (Zd : Int) (Z9 : Int) (Zg : Int) (Zf : Int) (Z7 : Int) : Option Bool :=
  chk (0 ≤ Ze ∧ Ze < 6) <|
  br (Ze == (0 : Int)) (
    jn (τ := Unit) (fun (_ : Unit) =>
      jn (τ := Unit) (fun (_ : Unit) =>
        jn (τ := Unit) (fun (_ : Unit) =>
          br (true) (
          some (((0 : Int) == (0 : Int)) && ((Zc == (-1 : Int)) && ((Zd == (0 : Int)) && ((Z9 == (-1 : Int)) && ((Zg == (0 : Int)) && ((Zf == (0 : Int)) && (Z7 == Z7)))))))) (
          none)) fun K_2 =>
        br (true) (
        K_2 ()) (
        none)) fun K_1 =>
      br (true) (
      K_1 ()) (
      none)) fun K_ =>
    br (true) (
    K_ ()) (
    none)) (
  br (Ze == (1 : Int)) (
    jn (τ := Unit) (fun (_ : Unit) =>
      jn (τ := Unit) (fun (_ : Unit) =>
        jn (τ := Unit) (fun (_ : Unit) =>
          br (false) (
          none) (
          some (((1 : Int) == (1 : Int)) && ((Zc == Zc) && ((Zd == Zd) && ((Z9 == (-1 : Int)) && ((Zg == Zg) && ((Zf == Zf) && (Z7 == Z7))))))))) fun K_5 =>
        br (false) (
        none) (
        K_5 ())) fun K_4 =>
      br (true) (
      K_4 ()) (
      none)) fun K_3 =>
    br (false) (
    none) (
    K_3 ())) (
  br (Ze == (2 : Int)) (
    jn (τ := Unit) (fun (_ : Unit) =>
      jn (τ := Unit) (fun (_ : Unit) =>
        jn (τ := Unit) (fun (_ : Unit) =>
          br (false) (
          none) (
          some (((2 : Int) == (2 : Int)) && ((Zc == (-1 : Int)) && ((Zd == (0 : Int)) && ((Z9 == Z9) && ((Zg == Zg) && ((Zf == Zf) && (Z7 == Z7))))))))) fun K_8 =>
        br (false) (
        none) (
        K_8 ())) fun K_7 =>
      br (false) (
      none) (
      K_7 ())) fun K_6 =>
    br (true) (
    K_6 ()) (
    none)) (
  br (Ze == (3 : Int)) (
    jn (τ := Unit) (fun (_ : Unit) =>
      jn (τ := Unit) (fun (_ : Unit) =>
        jn (τ := Unit) (fun (_ : Unit) =>
          br (false) (
          none) (
          some (((3 : Int) == (3 : Int)) && ((Zc == (-1 : Int)) && ((Zd == (0 : Int)) && ((Z9 == (-1 : Int)) && ((Zg == Zg) && ((Zf == Zf) && (Z7 == Z7))))))))) fun K_11 =>
        br (false) (
        none) (
        K_11 ())) fun K_10 =>
      br (true) (
      K_10 ()) (
      none)) fun K_9 =>
    br (true) (
    K_9 ()) (
    none)) (
  br (Ze == (4 : Int)) (
    jn (τ := Unit) (fun (_ : Unit) =>
      jn (τ := Unit) (fun (_ : Unit) =>
        jn (τ := Unit) (fun (_ : Unit) =>
          br (true) (
          some (((4 : Int) == (4 : Int)) && ((Zc == (-1 : Int)) && ((Zd == (0 : Int)) && ((Z9 == Z9) && ((Zg == (0 : Int)) && ((Zf == (0 : Int)) && (Z7 == Z7)))))))) (
          none)) fun K_14 =>
        br (true) (
        K_14 ()) (
        none)) fun K_13 =>
      br (false) (
      none) (
      K_13 ())) fun K_12 =>
    br (true) (
    K_12 ()) (
    none)) (
  br (Ze == (5 : Int)) (
    jn (τ := Unit) (fun (_ : Unit) =>
      jn (τ := Unit) (fun (_ : Unit) =>
        jn (τ := Unit) (fun (_ : Unit) =>
          br (false) (
          none) (
          some (((5 : Int) == (5 : Int)) && ((Zc == (-1 : Int)) && ((Zd == (0 : Int)) && ((Z9 == (-1 : Int)) && ((Zg == (0 : Int)) && ((Zf == Zf) && (Z7 == Z7))))))))) fun K_17 =>
        br (true) (
        K_17 ()) (
        none)) fun K_16 =>
      br (true) (
      K_16 ()) (
      none)) fun K_15 =>
    br (true) (
    K_15 ()) (
    none)) (
  none))))))

def access_site_isChance (N : Nat) (Zt : Int) (Zr : Int) (Zw : Int) (Zv : Int) (Zu : Int) (Zq : Int) (Zs : Int) (s_at : Int) (s_phones : List (Int × Int × Int × Int × Int × Int × Int)) (tick : Int) : Option Bool :=
  chk (Zr ≠ 0) <|
  some (tick.tmod Zr == (0 : Int))

def access_site_isPreamble (N : Nat) (Zt : Int) (Zr : Int) (Zw : Int) (Zv : Int) (Zu : Int) (Zq : Int) (Zs : Int) (s_at : Int) (s_phones : List (Int × Int × Int × Int × Int × Int × Int)) (n : Int) : Option Bool :=
  bnd (access_within N n (0 : Int) (w64 (Zt - (1 : Int)))) fun x1 =>
  some x1

def access_site_isIdentity (N : Nat) (Zt : Int) (Zr : Int) (Zw : Int) (Zv : Int) (Zu : Int) (Zq : Int) (Zs : Int) (s_at : Int) (s_phones : List (Int × Int × Int × Int × Int × Int × Int)) (n : Int) : Option Bool :=
  bnd (access_within N n (0 : Int) (w64 (Zs - (1 : Int)))) fun x1 =>
  some x1

def access_held_1 (N : Nat) (Ze : Int) (Zc : Int) (Zd : Int) (Z9 : Int) (Zg : Int) (Zf : Int) (Z7 : Int) (a1 : Int) : Option Bool :=
  some ((Ze == (4 : Int)) && (Z9 == a1))

def slices_IndexFunc_api_AccessPhone_api_AccessPhone.b1 (N : Nat) (s : List (Int × Int × Int × Int × Int × Int × Int)) (f : Int → Int → Int → Int → Int → Int → Int → Option Bool) (K_ : Unit → Option Int) (rec : Int → Option Int) : Int → Option Int := fun t8 =>
  br (decide (t8 < (s.length : Int))) (
  chk (0 ≤ t8 ∧ t8 < (s.length : Int)) <|
  bnd (f ((s.getD t8.toNat default).1) ((s.getD t8.toNat default).2.1) ((s.getD t8.toNat default).2.2.1) ((s.getD t8.toNat default).2.2.2.1) ((s.getD t8.toNat default).2.2.2.2.1) ((s.getD t8.toNat default).2.2.2.2.2.1) ((s.getD t8.toNat default).2.2.2.2.2.2)) fun x1 =>
  br (x1) (
  some t8) (
  rec (w64 (t8 + (1 : Int))))) (
  K_ ())
def slices_IndexFunc_api_AccessPhone_api_AccessPhone (N : Nat) (s : List (Int × Int × Int × Int × Int × Int × Int)) (f : Int → Int → Int → Int → Int → Int → Int → Option Bool) : Option Int :=
  jn (τ := Unit) (fun (_ : Unit) =>
    some (-1 : Int)) fun K_ =>
  rds (slices_IndexFunc_api_AccessPhone_api_AccessPhone.b1 N s f K_) N (0 : Int)

def slices_ContainsFunc_api_AccessPhone_api_AccessPhone (N : Nat) (s : List (Int × Int × Int × Int × Int × Int × Int)) (f : Int → Int → Int → Int → Int → Int → Int → Option Bool) : Option Bool :=
  bnd (slices_IndexFunc_api_AccessPhone_api_AccessPhone N s f) fun x1 =>
  some (decide (x1 ≥ (0 : Int)))

def access_held (N : Nat) (l : List (Int × Int × Int × Int × Int × Int × Int)) (identity : Int) : Option Bool :=
  bnd (slices_ContainsFunc_api_AccessPhone_api_AccessPhone N l (fun y0 y1 y2 y3 y4 y5 y6 => access_held_1 N y0 y1 y2 y3 y4 y5 y6 identity)) fun x1 =>
  some x1

def access_had_1 (N : Nat) (Ze : Int) (Zc : Int) (Zd : Int) (Z9 : Int) (Zg : Int) (Zf : Int) (Z7 : Int) (a1 : Int) : Option Bool :=
  some (Z9 == a1)

def access_had (N : Nat) (l : List (Int × Int × Int × Int × Int × Int × Int)) (identity : Int) : Option Bool :=
  bnd (slices_ContainsFunc_api_AccessPhone_api_AccessPhone N l (fun y0 y1 y2 y3 y4 y5 y6 => access_had_1 N y0 y1 y2 y3 y4 y5 y6 identity)) fun x1 =>
  some x1

def access_site_phoneErr (N : Nat) (Zt : Int) (Zr : Int) (Zw : Int) (Zv : Int) (Zu : Int) (Zq : Int) (Zs : Int) (s_at : Int) (s_phones : List (Int × Int × Int × Int × Int × Int × Int)) (number : Int) : Option Int :=
  chk (0 ≤ number ∧ number < (s_phones.length : Int)) <|
  chk (0 ≤ (0 : Int) ∧ (0 : Int) ≤ number ∧ number ≤ (s_phones.length : Int)) <|
  bnd (access_within N ((s_phones.getD number.toNat default).1) (0 : Int) (5 : Int)) fun x1 =>
  br (!x1) (
  some (15 : Int)) (
  bnd (access_isDraw N ((s_phones.getD number.toNat default).2.2.2.2.2.2)) fun x2 =>
  bnd (access_unless N x2 (2 : Int)) fun x3 =>
  bnd (access_fits N ((s_phones.getD number.toNat default).1) ((s_phones.getD number.toNat default).2.1) ((s_phones.getD number.toNat default).2.2.1) ((s_phones.getD number.toNat default).2.2.2.1) ((s_phones.getD number.toNat default).2.2.2.2.1) ((s_phones.getD number.toNat default).2.2.2.2.2.1) ((s_phones.getD number.toNat default).2.2.2.2.2.2)) fun x4 =>
  bnd (access_unless N x4 (3 : Int)) fun x5 =>
  bnd (access_first N ([x3, x5] : List Int)) fun x6 =>
  br ((x6 != (0 : Int))) (
  some x6) (
  bnd (access_within N ((s_phones.getD number.toNat default).2.2.2.2.2.1) (1 : Int) Zu) fun x7 =>
  br (((s_phones.getD number.toNat default).1 == (1 : Int))) (
  bnd (access_within N ((s_phones.getD number.toNat default).2.2.1) (0 : Int) s_at) fun x8 =>
  bnd (grd x8 false (access_site_isChance N Zt Zr Zw Zv Zu Zq Zs s_at s_phones ((s_phones.getD number.toNat default).2.2.1))) fun x9 =>
  bnd (access_site_isPreamble N Zt Zr Zw Zv Zu Zq Zs s_at s_phones ((s_phones.getD number.toNat default).2.1)) fun x10 =>
  bnd (access_unless N x10 (6 : Int)) fun x11 =>
  bnd (access_unless N (((x8 && x9) && ((s_phones.getD number.toNat default).2.2.2.2.1 == w64 (((s_phones.getD number.toNat default).2.2.1) + Zw))) && (decide ((s_phones.getD number.toNat default).2.2.2.2.1 ≥ s_at))) (22 : Int)) fun x12 =>
  bnd (access_unless N x7 (2 : Int)) fun x13 =>
  bnd (access_first N ([x11, x12, x13] : List Int)) fun x14 =>
  some x14) (
  br (((s_phones.getD number.toNat default).1 == (2 : Int))) (
  bnd (access_site_isIdentity N Zt Zr Zw Zv Zu Zq Zs s_at s_phones ((s_phones.getD number.toNat default).2.2.2.1)) fun x15 =>
  bnd (access_unless N x15 (6 : Int)) fun x16 =>
  bnd (access_within N ((s_phones.getD number.toNat default).2.2.2.2.1) s_at (w64 (s_at + Zv))) fun x17 =>
  bnd (access_unless N x17 (22 : Int)) fun x18 =>
  bnd (access_unless N x7 (2 : Int)) fun x19 =>
  bnd (access_held N (s_phones.take number.toNat) ((s_phones.getD number.toNat default).2.2.2.1)) fun x20 =>
  bnd (access_unless N (!x20) (13 : Int)) fun x21 =>
  bnd (access_first N ([x16, x18, x19, x21] : List Int)) fun x22 =>
  some x22) (
  br (((s_phones.getD number.toNat default).1 == (3 : Int))) (
  bnd (access_within N ((s_phones.getD number.toNat default).2.2.2.2.1) (0 : Int) (w64 (s_at + Zq))) fun x23 =>
  bnd (access_unless N x23 (22 : Int)) fun x24 =>
  bnd (access_unless N (x7 && (decide ((s_phones.getD number.toNat default).2.2.2.2.2.1 < Zu))) (2 : Int)) fun x25 =>
  bnd (access_first N ([x24, x25] : List Int)) fun x26 =>
  some x26) (
  br (((s_phones.getD number.toNat default).1 == (4 : Int))) (
  bnd (access_site_isIdentity N Zt Zr Zw Zv Zu Zq Zs s_at s_phones ((s_phones.getD number.toNat default).2.2.2.1)) fun x27 =>
  bnd (access_unless N x27 (6 : Int)) fun x28 =>
  bnd (access_had N (s_phones.take number.toNat) ((s_phones.getD number.toNat default).2.2.2.1)) fun x29 =>
  bnd (access_unless N (!x29) (13 : Int)) fun x30 =>
  bnd (access_first N ([x28, x30] : List Int)) fun x31 =>
  some x31) (
  br (((s_phones.getD number.toNat default).1 == (5 : Int))) (
  bnd (access_unless N ((s_phones.getD number.toNat default).2.2.2.2.2.1 == Zu) (2 : Int)) fun x32 =>
  some x32) (
  some (0 : Int))))))))

def access_Holder.b1 (N : Nat) (Zm : Int) (Zi : Int) (Zp : Int) (Zo : Int) (Zn : Int) (Zh : Int) (Zk : Int) (Z1a : Int) (x5 : List (Int × Int × Int × Int × Int × Int × Int)) (K_ : Unit → Option (Int × Int)) (rec : Int → Option (Int × Int)) : Int → Option (Int × Int) := fun t37 =>
  br (decide (t37 < (x5.length : Int))) (
  bnd (access_site_phoneErr N Zm Zi Zp Zo Zn Zh Zk Z1a x5 t37) fun x6 =>
  br ((x6 != (0 : Int))) (
  some ((0 : Int), x6)) (
  rec (w64 (t37 + (1 : Int))))) (
  K_ ())
def access_Holder.b2 (N : Nat) (identity : Int) (x5 : List (Int × Int × Int × Int × Int × Int × Int)) (K_1 : Unit → Option (Int × Int)) (rec1 : Int → Option (Int × Int)) : Int → Option (Int × Int) := fun t26 =>
  br (decide (t26 < (x5.length : Int))) (
  chk (0 ≤ t26 ∧ t26 ≤ w64 (t26 + (1 : Int)) ∧ w64 (t26 + (1 : Int)) ≤ (x5.length : Int)) <|
  bnd (access_held N ((x5.drop t26.toNat).take ((w64 (t26 + (1 : Int))).toNat - t26.toNat)) identity) fun x9 =>
  br (x9) (
  some (t26, (0 : Int))) (
  rec1 (w64 (t26 + (1 : Int))))) (
  K_1 ())
def access_Holder (N : Nat) (Zm : Int) (Zi : Int) (Zp : Int) (Zo : Int) (Zn : Int) (Zh : Int) (Zk : Int) (Z1a : Int) (Z1e : List (Int × Int × Int × Int × Int × Int × Int)) (identity : Int) : Option (Int × Int) :=
  bnd (access_CheckRules N Zm Zi Zp Zo Zn Zh Zk) fun x1 =>
  bnd (access_tickErr N Z1a) fun x2 =>
  bnd (access_phonesErr N (Z1e.length : Int)) fun x3 =>
  bnd (access_first N ([x1, x2, x3] : List Int)) fun x4 =>
  br ((x4 != (0 : Int))) (
  some ((0 : Int), x4)) (
  bnd (slices_Clone_pp N Z1e) fun x5 =>
  jn (τ := Unit) (fun (_ : Unit) =>
    bnd (access_site_isIdentity N Zm Zi Zp Zo Zn Zh Zk Z1a x5 identity) fun x7 =>
    bnd (access_unless N x7 (6 : Int)) fun x8 =>
    br ((x8 != (0 : Int))) (
    some ((0 : Int), x8)) (
    jn (τ := Unit) (fun (_ : Unit) =>
      some ((0 : Int), (12 : Int))) fun K_1 =>
    rds (access_Holder.b2 N identity x5 K_1) N (0 : Int))) fun K_ =>
  rds (access_Holder.b1 N Zm Zi Zp Zo Zn Zh Zk Z1a x5 K_) N (0 : Int))

def access_site_asking.b1 (N : Nat) (s_phones : List (Int × Int × Int × Int × Int × Int × Int)) (identity : Int) (K_ : List Int → Option (List Int)) (rec : Int × List Int → Option (List Int)) : Int × List Int → Option (List Int) := fun (t13, b01) =>
  br (decide (t13 < (s_phones.length : Int))) (
  chk (0 ≤ t13 ∧ t13 < (s_phones.length : Int)) <|
  br ((((s_phones.getD t13.toNat default).1 == (2 : Int)) && ((s_phones.getD t13.toNat default).2.2.2.1 == identity))) (
  chk (b01.length + ([t13] : List Int).length ≤ 1000000000) <|
  rec (w64 (t13 + (1 : Int)), (b01 ++ ([t13] : List Int)))) (
  rec (w64 (t13 + (1 : Int)), b01))) (
  K_ b01)
def access_site_asking (N : Nat) (Zt : Int) (Zr : Int) (Zw : Int) (Zv : Int) (Zu : Int) (Zq : Int) (Zs : Int) (s_at : Int) (s_phones : List (Int × Int × Int × Int × Int × Int × Int)) (identity : Int) : Option (List Int) :=
  jn (τ := List Int) (fun (b0 : List Int) =>
    some b0) fun K_ =>
  rds (access_site_asking.b1 N s_phones identity K_) N ((0 : Int), ([] : List Int))

def access_Asking.b1 (N : Nat) (Zm : Int) (Zi : Int) (Zp : Int) (Zo : Int) (Zn : Int) (Zh : Int) (Zk : Int) (Z1a : Int) (x5 : List (Int × Int × Int × Int × Int × Int × Int)) (K_ : Unit → Option (List Int × Int)) (rec : Int → Option (List Int × Int)) : Int → Option (List Int × Int) := fun t37 =>
  br (decide (t37 < (x5.length : Int))) (
  bnd (access_site_phoneErr N Zm Zi Zp Zo Zn Zh Zk Z1a x5 t37) fun x6 =>
  br ((x6 != (0 : Int))) (
  some (([] : List Int), x6)) (
  rec (w64 (t37 + (1 : Int))))) (
  K_ ())
def access_Asking (N : Nat) (Zm : Int) (Zi : Int) (Zp : Int) (Zo : Int) (Zn : Int) (Zh : Int) (Zk : Int) (Z1a : Int) (Z1e : List (Int × Int × Int × Int × Int × Int × Int)) (identity : Int) : Option (List Int × Int) :=
  bnd (access_CheckRules N Zm Zi Zp Zo Zn Zh Zk) fun x1 =>
  bnd (access_tickErr N Z1a) fun x2 =>
  bnd (access_phonesErr N (Z1e.length : Int)) fun x3 =>
  bnd (access_first N ([x1, x2, x3] : List Int)) fun x4 =>
  br ((x4 != (0 : Int))) (
  some (([] : List Int), x4)) (
  bnd (slices_Clone_pp N Z1e) fun x5 =>
  jn (τ := Unit) (fun (_ : Unit) =>
    bnd (access_site_isIdentity N Zm Zi Zp Zo Zn Zh Zk Z1a x5 identity) fun x7 =>
    bnd (access_unless N x7 (6 : Int)) fun x8 =>
    br ((x8 != (0 : Int))) (
    some (([] : List Int), x8)) (
    bnd (access_site_asking N Zm Zi Zp Zo Zn Zh Zk Z1a x5 identity) fun x9 =>
    some (x9, (0 : Int)))) fun K_ =>
  rds (access_Asking.b1 N Zm Zi Zp Zo Zn Zh Zk Z1a x5 K_) N (0 : Int))

def base_Ceil (N : Nat) (n : Int) (by_ : Int) : Option Int :=
  bnd (base_Floor N (w64 (0 - n)) by_) fun x1 =>
  some (w64 (0 - x1))

def ref07_NextChance (N : Nat) (Zm : Int) (Zi : Int) (Zp : Int) (Zo : Int) (Zn : Int) (Zh : Int) (Zk : Int) (at_ : Int) : Option (Int × Bool) :=
  bnd (base_Ceil N at_ Zi) fun x1 =>
  some (w64 (x1 * Zi), decide (w64 (x1 * Zi) ≤ (1000000000 : Int)))

def ref07_formed (N : Nat) (Ze : Int) (Zc : Int) (Zd : Int) (Z9 : Int) (Zg : Int) (Zf : Int) (Z7 : Int) : Option Bool :=
  bnd (ref07_plain N Ze Z7) fun (x1, x11, x12, x13, x14, x15, x16) =>
  br ((Ze == (1 : Int))) (
  some ((x1 == Ze) && ((Zc == Zc) && ((Zd == Zd) && ((x13 == Z9) && ((Zg == Zg) && ((Zf == Zf) && (x16 == Z7)))))))) (
  br ((Ze == (2 : Int))) (
  some ((x1 == Ze) && ((x11 == Zc) && ((x12 == Zd) && ((Z9 == Z9) && ((Zg == Zg) && ((Zf == Zf) && (x16 == Z7)))))))) (
  br ((Ze == (3 : Int))) (
  some ((x1 == Ze) && ((x11 == Zc) && ((x12 == Zd) && ((x13 == Z9) && ((Zg == Zg) && ((Zf == Zf) && (x16 == Z7)))))))) (
  br ((Ze == (4 : Int))) (
  some ((x1 == Ze) && ((x11 == Zc) && ((x12 == Zd) && ((Z9 == Z9) && ((x14 == Zg) && ((x15 == Zf) && (x16 == Z7)))))))) (
  br ((Ze == (5 : Int))) (
  some ((x1 == Ze) && ((x11 == Zc) && ((x12 == Zd) && ((x13 == Z9) && ((x14 == Zg) && ((Zf == Zf) && (x16 == Z7)))))))) (
  some ((x1 == Ze) && ((x11 == Zc) && ((x12 == Zd) && ((x13 == Z9) && ((x14 == Zg) && ((x15 == Zf) && (x16 == Z7))))))))))))

def ref07_triesErr (N : Nat) (Ze : Int) (Zc : Int) (Zd : Int) (Z9 : Int) (Zg : Int) (Zf : Int) (Z7 : Int) (most : Int) : Option Int :=
  bnd (base_Within N Zf (1 : Int) most) fun x1 =>
  br (!x1) (
  some (2 : Int)) (
  some (0 : Int))

def ref07_IdentityErr (N : Nat) (Zm : Int) (Zi : Int) (Zp : Int) (Zo : Int) (Zn : Int) (Zh : Int) (Zk : Int) (n : Int) : Option Int :=
  bnd (base_Within N n (0 : Int) (w64 (Zk - (1 : Int)))) fun x1 =>
  br (!x1) (
  some (6 : Int)) (
  some (0 : Int))

def ref07_phoneErr.b1 (N : Nat) (Z15 : List (Int × Int × Int × Int × Int × Int × Int)) (i : Int) (K_ : Unit → Option Int) (rec : Int → Option Int) : Int → Option Int := fun k =>
  br (decide (k < i)) (
  chk (0 ≤ k ∧ k < (Z15.length : Int)) <|
  chk (((Z15.getD k.toNat default).1 == (4 : Int)) = true → 0 ≤ k ∧ k < (Z15.length : Int)) <|
  br ((((Z15.getD k.toNat default).1 == (4 : Int)) && ((Z15.getD k.toNat default).2.2.2.1 == (Z15.getD i.toNat default).2.2.2.1))) (
  some (13 : Int)) (
  rec (w64 (k + (1 : Int))))) (
  K_ ())
def ref07_phoneErr.b2 (N : Nat) (Z15 : List (Int × Int × Int × Int × Int × Int × Int)) (i : Int) (K_ : Unit → Option Int) (rec1 : Int → Option Int) : Int → Option Int := fun k1 =>
  br (decide (k1 < i)) (
  chk (0 ≤ k1 ∧ k1 < (Z15.length : Int)) <|
  br (((Z15.getD k1.toNat default).2.2.2.1 == (Z15.getD i.toNat default).2.2.2.1)) (
  some (13 : Int)) (
  rec1 (w64 (k1 + (1 : Int))))) (
  K_ ())
def ref07_phoneErr (N : Nat) (Zm : Int) (Zi : Int) (Zp : Int) (Zo : Int) (Zn : Int) (Zh : Int) (Zk : Int) (Z11 : Int) (Z15 : List (Int × Int × Int × Int × Int × Int × Int)) (i : Int) : Option Int :=
  chk (0 ≤ i ∧ i < (Z15.length : Int)) <|
  bnd (base_Within N ((Z15.getD i.toNat default).1) (0 : Int) (5 : Int)) fun x1 =>
  br (!x1) (
  some (15 : Int)) (
  bnd (ref07_isDraw N ((Z15.getD i.toNat default).2.2.2.2.2.2)) fun x2 =>
  br (!x2) (
  some (2 : Int)) (
  bnd (ref07_formed N ((Z15.getD i.toNat default).1) ((Z15.getD i.toNat default).2.1) ((Z15.getD i.toNat default).2.2.1) ((Z15.getD i.toNat default).2.2.2.1) ((Z15.getD i.toNat default).2.2.2.2.1) ((Z15.getD i.toNat default).2.2.2.2.2.1) ((Z15.getD i.toNat default).2.2.2.2.2.2)) fun x3 =>
  br (!x3) (
  some (3 : Int)) (
  jn (τ := Unit) (fun (_ : Unit) =>
    some (0 : Int)) fun K_ =>
  br (((Z15.getD i.toNat default).1 == (1 : Int))) (
  bnd (base_Within N ((Z15.getD i.toNat default).2.1) (0 : Int) (w64 (Zm - (1 : Int)))) fun x4 =>
  br (!x4) (
  some (6 : Int)) (
  bnd (base_Within N ((Z15.getD i.toNat default).2.2.1) (0 : Int) Z11) fun x5 =>
  chk (x5 = true → Zi ≠ 0) <|
  br (((((!x5) || (((Z15.getD i.toNat default).2.2.1).tmod Zi != (0 : Int))) || ((Z15.getD i.toNat default).2.2.2.2.1 != w64 (((Z15.getD i.toNat default).2.2.1) + Zp))) || (decide ((Z15.getD i.toNat default).2.2.2.2.1 < Z11)))) (
  some (22 : Int)) (
  bnd (ref07_triesErr N ((Z15.getD i.toNat default).1) ((Z15.getD i.toNat default).2.1) ((Z15.getD i.toNat default).2.2.1) ((Z15.getD i.toNat default).2.2.2.1) ((Z15.getD i.toNat default).2.2.2.2.1) ((Z15.getD i.toNat default).2.2.2.2.2.1) ((Z15.getD i.toNat default).2.2.2.2.2.2) Zn) fun x6 =>
  some x6))) (
  br (((Z15.getD i.toNat default).1 == (2 : Int))) (
  bnd (ref07_IdentityErr N Zm Zi Zp Zo Zn Zh Zk ((Z15.getD i.toNat default).2.2.2.1)) fun x7 =>
  br ((x7 != (0 : Int))) (
  some x7) (
  bnd (base_Within N ((Z15.getD i.toNat default).2.2.2.2.1) Z11 (w64 (Z11 + Zo))) fun x8 =>
  br (!x8) (
  some (22 : Int)) (
  bnd (ref07_triesErr N ((Z15.getD i.toNat default).1) ((Z15.getD i.toNat default).2.1) ((Z15.getD i.toNat default).2.2.1) ((Z15.getD i.toNat default).2.2.2.1) ((Z15.getD i.toNat default).2.2.2.2.1) ((Z15.getD i.toNat default).2.2.2.2.2.1) ((Z15.getD i.toNat default).2.2.2.2.2.2) Zn) fun x9 =>
  br ((x9 != (0 : Int))) (
  some x9) (
  rds (ref07_phoneErr.b1 N Z15 i K_) N (0 : Int))))) (
  br (((Z15.getD i.toNat default).1 == (3 : Int))) (
  bnd (base_Within N ((Z15.getD i.toNat default).2.2.2.2.1) (0 : Int) (w64 (Z11 + Zh))) fun x10 =>
  br (!x10) (
  some (22 : Int)) (
  bnd (ref07_triesErr N ((Z15.getD i.toNat default).1) ((Z15.getD i.toNat default).2.1) ((Z15.getD i.toNat default).2.2.1) ((Z15.getD i.toNat default).2.2.2.1) ((Z15.getD i.toNat default).2.2.2.2.1) ((Z15.getD i.toNat default).2.2.2.2.2.1) ((Z15.getD i.toNat default).2.2.2.2.2.2) (w64 (Zn - (1 : Int)))) fun x11 =>
  some x11)) (
  br (((Z15.getD i.toNat default).1 == (4 : Int))) (
  bnd (ref07_IdentityErr N Zm Zi Zp Zo Zn Zh Zk ((Z15.getD i.toNat default).2.2.2.1)) fun x12 =>
  br ((x12 != (0 : Int))) (
  some x12) (
  rds (ref07_phoneErr.b2 N Z15 i K_) N (0 : Int))) (
  br (((Z15.getD i.toNat default).1 == (5 : Int))) (
  br (((Z15.getD i.toNat default).2.2.2.2.2.1 != Zn)) (
  some (2 : Int)) (
  K_ ())) (
  K_ ()))))))))

def ref07_CheckState.b1 (N : Nat) (Zm : Int) (Zi : Int) (Zp : Int) (Zo : Int) (Zn : Int) (Zh : Int) (Zk : Int) (Z11 : Int) (Z15 : List (Int × Int × Int × Int × Int × Int × Int)) (K_ : Unit → Option Int) (rec : Int → Option Int) : Int → Option Int := fun i =>
  br (decide (i < (Z15.length : Int))) (
  bnd (ref07_phoneErr N Zm Zi Zp Zo Zn Zh Zk Z11 Z15 i) fun x2 =>
  br ((x2 != (0 : Int))) (
  some x2) (
  rec (w64 (i + (1 : Int))))) (
  K_ ())
def ref07_CheckState (N : Nat) (Zm : Int) (Zi : Int) (Zp : Int) (Zo : Int) (Zn : Int) (Zh : Int) (Zk : Int) (Z11 : Int) (Z15 : List (Int × Int × Int × Int × Int × Int × Int)) : Option Int :=
  bnd (ref07_TickErr N Z11) fun x1 =>
  br ((x1 != (0 : Int))) (
  some x1) (
  br (((Z15.length : Int) == (0 : Int))) (
  some (10 : Int)) (
  br (decide ((Z15.length : Int) > (8 : Int))) (
  some (8 : Int)) (
  jn (τ := Unit) (fun (_ : Unit) =>
    some (0 : Int)) fun K_ =>
  rds (ref07_CheckState.b1 N Zm Zi Zp Zo Zn Zh Zk Z11 Z15 K_) N (0 : Int))))

def ref07_Holder.b1 (N : Nat) (Z15 : List (Int × Int × Int × Int × Int × Int × Int)) (identity : Int) (K_ : Unit → Option (Int × Bool)) (rec : Int → Option (Int × Bool)) : Int → Option (Int × Bool) := fun i =>
  br (decide (i < (Z15.length : Int))) (
  chk (0 ≤ i ∧ i < (Z15.length : Int)) <|
  chk (((Z15.getD i.toNat default).1 == (4 : Int)) = true → 0 ≤ i ∧ i < (Z15.length : Int)) <|
  br ((((Z15.getD i.toNat default).1 == (4 : Int)) && ((Z15.getD i.toNat default).2.2.2.1 == identity))) (
  some (i, true)) (
  rec (w64 (i + (1 : Int))))) (
  K_ ())
def ref07_Holder (N : Nat) (Z11 : Int) (Z15 : List (Int × Int × Int × Int × Int × Int × Int)) (identity : Int) : Option (Int × Bool) :=
  jn (τ := Unit) (fun (_ : Unit) =>
    some ((0 : Int), false)) fun K_ =>
  rds (ref07_Holder.b1 N Z15 identity K_) N (0 : Int)

def ref07_Asking.b1 (N : Nat) (Z15 : List (Int × Int × Int × Int × Int × Int × Int)) (identity : Int) (K_ : List Int → Option (List Int)) (rec : Int × List Int → Option (List Int)) : Int × List Int → Option (List Int) := fun (i, b11) =>
  br (decide (i < (Z15.length : Int))) (
  chk (0 ≤ i ∧ i < (Z15.length : Int)) <|
  chk (((Z15.getD i.toNat default).1 == (2 : Int)) = true → 0 ≤ i ∧ i < (Z15.length : Int)) <|
  br ((((Z15.getD i.toNat default).1 == (2 : Int)) && ((Z15.getD i.toNat default).2.2.2.1 == identity))) (
  chk (b11.length + ([i] : List Int).length ≤ 1000000000) <|
  rec (w64 (i + (1 : Int)), (b11 ++ ([i] : List Int)))) (
  rec (w64 (i + (1 : Int)), b11))) (
  K_ b11)
def ref07_Asking (N : Nat) (Z11 : Int) (Z15 : List (Int × Int × Int × Int × Int × Int × Int)) (identity : Int) : Option (List Int) :=
  jn (τ := List Int) (fun (b1 : List Int) =>
    some b1) fun K_ =>
  rds (ref07_Asking.b1 N Z15 identity K_) N ((0 : Int), ([] : List Int))

def base_Ints.b1 (N : Nat) (a : List Int) (b : List Int) (K_ : Unit → Option Bool) (rec : Int → Option Bool) : Int → Option Bool := fun i =>
  br (decide (i < (a.length : Int))) (
  chk (0 ≤ i ∧ i < (a.length : Int)) <|
  chk (0 ≤ i ∧ i < (b.length : Int)) <|
  br (((a.getD i.toNat 0) != (b.getD i.toNat 0))) (
  some false) (
  rec (w64 (i + (1 : Int))))) (
  K_ ())
def base_Ints (N : Nat) (a : List Int) (b : List Int) : Option Bool :=
  br (((a.length : Int) != (b.length : Int))) (
  some false) (
  jn (τ := Unit) (fun (_ : Unit) =>
    some true) fun K_ =>
  rds (base_Ints.b1 N a b K_) N (0 : Int))

def law07_AccessQuestions (N : Nat) (Zm : Int) (Zi : Int) (Zp : Int) (Zo : Int) (Zn : Int) (Zh : Int) (Zk : Int) (Z11 : Int) (Z15 : List (Int × Int × Int × Int × Int × Int × Int)) (x_0 : Int) (x_1 : Int) : Option Bool :=
  bnd (law07_awake N ) fun x1 =>
  br (!x1) (
  some false) (
  bnd (law07_Few N Z11 Z15) fun x2 =>
  br (!x2) (
  some true) (
  bnd (access_NextChance N Zm Zi Zp Zo Zn Zh Zk x_0) fun (x3, x31) =>
  bnd (ref07_Copy N Z11 Z15) fun (x4, x41) =>
  bnd (access_Holder N Zm Zi Zp Zo Zn Zh Zk x4 x41 x_1) fun (x5, x51) =>
  bnd (ref07_Copy N Z11 Z15) fun (x6, x61) =>
  bnd (access_Asking N Zm Zi Zp Zo Zn Zh Zk x6 x61 x_1) fun (x7, x71) =>
  bnd (ref07_CheckRules N Zm Zi Zp Zo Zn Zh Zk) fun x8 =>
  jn (τ := Int) (fun (d : Int) =>
    jn (τ := Int × Int) (fun (d1, want) =>
      br (((x31 != d1) || (x3 != want))) (
      some false) (
      jn (τ := Int) (fun (c : Int) =>
        jn (τ := Int) (fun (c1 : Int) =>
          br ((c1 != (0 : Int))) (
          some ((((x51 == c1) && (x71 == c1)) && (x5 == (0 : Int))) && ((x7.length : Int) == (0 : Int)))) (
          bnd (ref07_Holder N Z11 Z15 x_1) fun (x13, x131) =>
          bnd (grd (x71 == (0 : Int)) default (ref07_Asking N Z11 Z15 x_1)) fun x14 =>
          bnd (grd (x71 == (0 : Int)) false (base_Ints N x7 x14)) fun x15 =>
          some (((x71 == (0 : Int)) && x15) && (((x131 && (x51 == (0 : Int))) && (x5 == x13)) || (((!x131) && (x51 == (12 : Int))) && (x5 == (0 : Int))))))) fun K_3 =>
        br ((c == (0 : Int))) (
        bnd (ref07_IdentityErr N Zm Zi Zp Zo Zn Zh Zk x_1) fun x12 =>
        K_3 x12) (
        K_3 c)) fun K_2 =>
      br ((x8 == (0 : Int))) (
      bnd (ref07_CheckState N Zm Zi Zp Zo Zn Zh Zk Z11 Z15) fun x11 =>
      K_2 x11) (
      K_2 x8))) fun K_1 =>
    br ((d == (0 : Int))) (
    bnd (ref07_NextChance N Zm Zi Zp Zo Zn Zh Zk x_0) fun (x10, x101) =>
    br (!x101) (
    K_1 ((12 : Int), (0 : Int))) (
    K_1 (d, x10))) (
    K_1 (d, (0 : Int)))) fun K_ =>
  br ((x8 == (0 : Int))) (
  bnd (ref07_TickErr N x_0) fun x9 =>
  K_ x9) (
  K_ x8)))
end
end Go.Sh
