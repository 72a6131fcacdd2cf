import Derived.Test.YtabojpkmfkjjkaaSsH
set_option linter.all false
namespace Go.Sh
open Go.PW
noncomputable section
def law06_Site (N : Nat)  : Option (Int × Int × Int × List Int) :=
  some ((10 : Int), (3 : Int), (1000 : Int), ([(0 : Int), (10 : Int), (20 : Int), (40 : Int)] : List Int))

def law06_Voice (N : Nat)  : Option (ByteArray × Int × Int × Int × Int × Int × Int × Int × Int) :=
  some ((⟨#[118]⟩ : ByteArray), (1 : Int), (1 : Int), (1 : Int), (20 : Int), (1 : Int), (100 : Int), (20 : Int), (4 : Int))

def g8 (N : Nat) (n : Int) (lo : Int) (hi : Int) : Option Bool :=
  some ((decide (lo ≤ n)) && (decide (n ≤ hi)))

def f5 (N : Nat) (is_ : Bool) (e : Int) : Option Int :=
  br (is_) (
  some (0 : Int)) (
  some e)

def sched_first.b1 (N : Nat) (l : List Int) (K_ : Unit → Option Int) (rec : Int → Option Int) : Int → Option Int := fun t7 =>
  br (decide (t7 < (l.length : Int))) (
  chk (0 ≤ t7 ∧ t7 < (l.length : Int)) <|
  br (((l.getD t7.toNat 0) != (0 : Int))) (
  some (l.getD t7.toNat 0)) (
  rec (w64 (t7 + (1 : Int))))) (
  K_ ())
def sched_first (N : Nat) (l : List Int) : Option Int :=
  jn (τ := Unit) (fun (_ : Unit) =>
    some (0 : Int)) fun K_ =>
  rds (sched_first.b1 N l K_) N (0 : Int)

def sched_CheckSite.b1 (N : Nat) (Zx : List Int) (K_ : Unit → Option Int) (rec : Int × Int → Option Int) : Int × Int → Option Int := fun (before, t40) =>
  br (decide (t40 < (Zx.length : Int))) (
  chk (0 ≤ t40 ∧ t40 < (Zx.length : Int)) <|
  bnd (g8 N (Zx.getD t40.toNat 0) (0 : Int) (1000 : Int)) fun x8 =>
  bnd (f5 N x8 (2 : Int)) fun x9 =>
  bnd (f5 N (decide ((Zx.getD t40.toNat 0) ≥ before)) (9 : Int)) fun x10 =>
  bnd (sched_first N ([x9, x10] : List Int)) fun x11 =>
  br ((x11 != (0 : Int))) (
  some x11) (
  rec ((Zx.getD t40.toNat 0), w64 (t40 + (1 : Int))))) (
  K_ ())
def sched_CheckSite (N : Nat) (Zq : Int) (Zr : Int) (Zs : Int) (Zx : List Int) : Option Int :=
  bnd (g8 N Zq (1 : Int) (20 : Int)) fun x1 =>
  bnd (grd x1 false (g8 N Zr (1 : Int) (8 : Int))) fun x2 =>
  bnd (grd (x1 && x2) false (g8 N Zs (0 : Int) (100000 : Int))) fun x3 =>
  bnd (f5 N ((x1 && x2) && x3) (2 : Int)) fun x4 =>
  bnd (f5 N (decide ((Zx.length : Int) > (0 : Int))) (10 : Int)) fun x5 =>
  bnd (f5 N (decide ((Zx.length : Int) ≤ (16 : Int))) (8 : Int)) fun x6 =>
  bnd (sched_first N ([x4, x5, x6] : List Int)) fun x7 =>
  br ((x7 != (0 : Int))) (
  some x7) (
  jn (τ := Unit) (fun (_ : Unit) =>
    some (0 : Int)) fun K_ =>
  rds (sched_CheckSite.b1 N Zx K_) N ((0 : Int), (0 : Int)))

def sched_open (N : Nat) (Zq : Int) (Zr : Int) (Zs : Int) (Zx : List Int) : Option (Int × Int × Int × List Int × Int) :=
  bnd (sched_CheckSite N Zq Zr Zs Zx) fun x1 =>
  some (Zq, Zr, Zs, Zx, x1)

def sched_isName.b1 (N : Nat) (s : ByteArray) (K_ : Unit → Option Bool) (rec : Int → Option Bool) : Int → Option Bool := fun t9 =>
  br (decide (t9 < ((g9 s).length : Int))) (
  chk (0 ≤ t9 ∧ t9 < ((g9 s).length : Int)) <|
  br (((!(((decide (((g9 s).getD t9.toNat 0) ≥ (97 : Int))) && (decide (((g9 s).getD t9.toNat 0) ≤ (122 : Int)))) || ((decide (((g9 s).getD t9.toNat 0) ≥ (65 : Int))) && (decide (((g9 s).getD t9.toNat 0) ≤ (90 : Int)))))) && ((t9 == (0 : Int)) || ((((g9 s).getD t9.toNat 0) != (45 : Int)) && ((decide (((g9 s).getD t9.toNat 0) < (48 : Int))) || (decide (((g9 s).getD t9.toNat 0) > (57 : Int)))))))) (
  some false) (
  rec (w64 (t9 + (1 : Int))))) (
  K_ ())
def sched_isName (N : Nat) (s : ByteArray) : Option Bool :=
  jn (τ := Unit) (fun (_ : Unit) =>
    some ((!(s.toList == (⟨#[]⟩ : ByteArray).toList)) && (decide ((s.size : Int) ≤ (12 : Int))))) fun K_ =>
  rds (sched_isName.b1 N s K_) N (0 : Int)

def m8 (N : Nat) (Zt : Int) (Zu : Int) (Zv : Int) (Zw : List Int) (n : Int) : Option Bool :=
  bnd (g8 N n (0 : Int) (w64 ((Zw.length : Int) - (1 : Int)))) fun x1 =>
  some x1

def k4 (N : Nat) (Zt : Int) (Zu : Int) (Zv : Int) (Zw : List Int) (Z1f : ByteArray) (Z1d : Int) (Z1i : Int) (Z1l : Int) (Z1h : Int) (Z1e : Int) (Z1a : Int) (Z1j : Int) (Z1b : Int) : Option Int :=
  bnd (g8 N Z1i (0 : Int) (100 : Int)) fun x1 =>
  bnd (grd x1 false (g8 N Z1l (1 : Int) (100 : Int))) fun x2 =>
  bnd (grd (x1 && x2) false (g8 N Z1h (0 : Int) (100000 : Int))) fun x3 =>
  bnd (sched_isName N Z1f) fun x4 =>
  bnd (f5 N x4 (4 : Int)) fun x5 =>
  bnd (g8 N Z1d (0 : Int) (2 : Int)) fun x6 =>
  bnd (f5 N x6 (15 : Int)) fun x7 =>
  bnd (f5 N ((x1 && x2) && x3) (2 : Int)) fun x8 =>
  bnd (sched_first N ([x5, x7, x8] : List Int)) fun x9 =>
  br ((x9 != (0 : Int))) (
  some x9) (
  br ((Z1d == (0 : Int))) (
  bnd (f5 N ((((Z1e == (0 : Int)) && (Z1a == (0 : Int))) && (Z1j == (0 : Int))) && (Z1b == (0 : Int))) (3 : Int)) fun x10 =>
  some x10) (
  bnd (m8 N Zt Zu Zv Zw Z1e) fun x11 =>
  br (!x11) (
  some (2 : Int)) (
  bnd (g8 N Z1a (1 : Int) (1000000 : Int)) fun x12 =>
  bnd (grd x12 false (g8 N Z1j (0 : Int) (1000000 : Int))) fun x13 =>
  bnd (grd (x12 && x13) false (g8 N Z1b (1 : Int) (1000 : Int))) fun x14 =>
  bnd (f5 N ((x12 && x13) && x14) (2 : Int)) fun x15 =>
  chk (0 ≤ Z1e ∧ Z1e < (Zw.length : Int)) <|
  bnd (f5 N (decide ((Zw.getD Z1e.toNat 0) > (0 : Int))) (11 : Int)) fun x16 =>
  bnd (sched_first N ([x15, x16] : List Int)) fun x17 =>
  some x17)))

def u0 (N : Nat) (Zq : Int) (Zr : Int) (Zs : Int) (Zx : List Int) (Z1f : ByteArray) (Z1d : Int) (Z1i : Int) (Z1l : Int) (Z1h : Int) (Z1e : Int) (Z1a : Int) (Z1j : Int) (Z1b : Int) : Option (Int × Int × Int × List Int × Int) :=
  bnd (sched_open N Zq Zr Zs Zx) fun (x1, x11, x12, x13, x14) =>
  br ((x14 != (0 : Int))) (
  some (x1, x11, x12, x13, x14)) (
  bnd (k4 N x1 x11 x12 x13 Z1f Z1d Z1i Z1l Z1h Z1e Z1a Z1j Z1b) fun x2 =>
  some (x1, x11, x12, x13, x2))

def p8 (N : Nat) (Z1f : ByteArray) (Z1d : Int) (Z1i : Int) (Z1l : Int) (Z1h : Int) (Z1e : Int) (Z1a : Int) (Z1j : Int) (Z1b : Int) : Option Bool :=
  some (Z1d != (0 : Int))

def sched_ceil (N : Nat) (n : Int) (by_ : Int) : Option Int :=
  chk (by_ ≠ 0) <|
  some (w64 ((w64 ((w64 (n + by_)) - (1 : Int))).tdiv by_))

def o8 (N : Nat) (Zt : Int) (Zu : Int) (Zv : Int) (Zw : List Int) (Z1f : ByteArray) (Z1d : Int) (Z1i : Int) (Z1l : Int) (Z1h : Int) (Z1e : Int) (Z1a : Int) (Z1j : Int) (Z1b : Int) : Option (Int × Int × Int) :=
  bnd (p8 N Z1f Z1d Z1i Z1l Z1h Z1e Z1a Z1j Z1b) fun x1 =>
  br (!x1) (
  some ((0 : Int), (0 : Int), (0 : Int))) (
  bnd (sched_ceil N Z1a Z1b) fun x2 =>
  chk (0 ≤ Z1e ∧ Z1e < (Zw.length : Int)) <|
  bnd (sched_ceil N (if Z1j < x2 then x2 else Z1j) (Zw.getD Z1e.toNat 0)) fun x3 =>
  some (x3, (1 : Int), w64 (x3 * Z1h)))

def sched_NeedOf (N : Nat) (Zq : Int) (Zr : Int) (Zs : Int) (Zx : List Int) (Z1f : ByteArray) (Z1d : Int) (Z1i : Int) (Z1l : Int) (Z1h : Int) (Z1e : Int) (Z1a : Int) (Z1j : Int) (Z1b : Int) : Option (Int × Int × Int × Int) :=
  bnd (u0 N Zq Zr Zs Zx Z1f Z1d Z1i Z1l Z1h Z1e Z1a Z1j Z1b) fun (x1, x11, x12, x13, x14) =>
  br ((x14 != (0 : Int))) (
  some ((0 : Int), (0 : Int), (0 : Int), x14)) (
  bnd (o8 N x1 x11 x12 x13 Z1f Z1d Z1i Z1l Z1h Z1e Z1a Z1j Z1b) fun (x2, x21, x22) =>
  some (x2, x21, x22, (0 : Int)))

def law06_Alarm (N : Nat)  : Option (ByteArray × Int × Int × Int × Int × Int × Int × Int × Int) :=
  some ((⟨#[101]⟩ : ByteArray), (2 : Int), (0 : Int), (1 : Int), (10 : Int), (1 : Int), (80 : Int), (0 : Int), (1 : Int))

def w5 (N : Nat) (Z1f : ByteArray) (Z1d : Int) (Z1i : Int) (Z1l : Int) (Z1h : Int) (Z1e : Int) (Z1a : Int) (Z1j : Int) (Z1b : Int) (a1 : ByteArray) : Option Bool :=
  some (Z1f.toList == a1.toList)

def slices_IndexFunc_api_SchedBearer_api_SchedBearer.b1 (N : Nat) (s : List TB) (f : ByteArray → Int → Int → Int → Int → Int → Int → Int → Int → Option Bool) (K_ : Unit → Option Int) (rec : Int → Option Int) : Int → Option Int := fun t8 =>
  br (decide (t8 < (s.length : Int))) (
  chk (0 ≤ t8 ∧ t8 < (s.length : Int)) <|
  bnd (f ((s.getD t8.toNat default).1) ((s.getD t8.toNat default).2.1) ((s.getD t8.toNat default).2.2.1) ((s.getD t8.toNat default).2.2.2.1) ((s.getD t8.toNat default).2.2.2.2.1) ((s.getD t8.toNat default).2.2.2.2.2.1) ((s.getD t8.toNat default).2.2.2.2.2.2.1) ((s.getD t8.toNat default).2.2.2.2.2.2.2.1) ((s.getD t8.toNat default).2.2.2.2.2.2.2.2)) fun x1 =>
  br (x1) (
  some t8) (
  rec (w64 (t8 + (1 : Int))))) (
  K_ ())
def slices_IndexFunc_api_SchedBearer_api_SchedBearer (N : Nat) (s : List TB) (f : ByteArray → Int → Int → Int → Int → Int → Int → Int → Int → Option Bool) : Option Int :=
  jn (τ := Unit) (fun (_ : Unit) =>
    some (-1 : Int)) fun K_ =>
  rds (slices_IndexFunc_api_SchedBearer_api_SchedBearer.b1 N s f K_) N (0 : Int)

def f8 (N : Nat) (s : List TB) (f : ByteArray → Int → Int → Int → Int → Int → Int → Int → Int → Option Bool) : Option Bool :=
  bnd (slices_IndexFunc_api_SchedBearer_api_SchedBearer N s f) fun x1 =>
  some (decide (x1 ≥ (0 : Int)))

def sched_named (N : Nat) (l : List TB) (name : ByteArray) : Option Bool :=
  bnd (f8 N l (fun y0 y1 y2 y3 y4 y5 y6 y7 y8 => w5 N y0 y1 y2 y3 y4 y5 y6 y7 y8 name)) fun x1 =>
  some x1

def sched_site_room.b1 (N : Nat) (Zt : Int) (Zu : Int) (Zv : Int) (Zw : List Int) (l : List TB) (K_ : Int × Int × Int → Option (Int × Int × Int)) (rec : Int × Int × Int × Int → Option (Int × Int × Int)) : Int × Int × Int × Int → Option (Int × Int × Int) := fun (t21, b23, b24, b25) =>
  br (decide (t21 < (l.length : Int))) (
  chk (0 ≤ t21 ∧ t21 < (l.length : Int)) <|
  bnd (o8 N Zt Zu Zv Zw ((l.getD t21.toNat default).1) ((l.getD t21.toNat default).2.1) ((l.getD t21.toNat default).2.2.1) ((l.getD t21.toNat default).2.2.2.1) ((l.getD t21.toNat default).2.2.2.2.1) ((l.getD t21.toNat default).2.2.2.2.2.1) ((l.getD t21.toNat default).2.2.2.2.2.2.1) ((l.getD t21.toNat default).2.2.2.2.2.2.2.1) ((l.getD t21.toNat default).2.2.2.2.2.2.2.2)) fun (x1, x11, x12) =>
  rec (w64 (t21 + (1 : Int)), w64 (b23 - x1), w64 (b24 - x11), w64 (b25 - x12))) (
  K_ (b23, b24, b25))
def sched_site_room (N : Nat) (Zt : Int) (Zu : Int) (Zv : Int) (Zw : List Int) (l : List TB) : Option (Int × Int × Int) :=
  jn (τ := Int × Int × Int) (fun (b2, b21, b22) =>
    some (b2, b21, b22)) fun K_ =>
  rds (sched_site_room.b1 N Zt Zu Zv Zw l K_) N ((0 : Int), Zt, Zu, Zv)

def q4 (N : Nat) (Zt : Int) (Zu : Int) (Zv : Int) (Zw : List Int) (l : List TB) : Option Bool :=
  bnd (sched_site_room N Zt Zu Zv Zw l) fun (x1, x11, x12) =>
  some (decide ((if x12 < (if x11 < x1 then x11 else x1) then x12 else (if x11 < x1 then x11 else x1)) ≥ (0 : Int)))

def sched_site_bearersErr.b1 (N : Nat) (Zt : Int) (Zu : Int) (Zv : Int) (Zw : List Int) (l : List TB) (K_ : Unit → Option (Int × Int)) (rec : Int → Option (Int × Int)) : Int → Option (Int × Int) := fun t14 =>
  br (decide (t14 < (l.length : Int))) (
  chk (0 ≤ t14 ∧ t14 < (l.length : Int)) <|
  bnd (k4 N Zt Zu Zv Zw ((l.getD t14.toNat default).1) ((l.getD t14.toNat default).2.1) ((l.getD t14.toNat default).2.2.1) ((l.getD t14.toNat default).2.2.2.1) ((l.getD t14.toNat default).2.2.2.2.1) ((l.getD t14.toNat default).2.2.2.2.2.1) ((l.getD t14.toNat default).2.2.2.2.2.2.1) ((l.getD t14.toNat default).2.2.2.2.2.2.2.1) ((l.getD t14.toNat default).2.2.2.2.2.2.2.2)) fun x1 =>
  chk (0 ≤ (0 : Int) ∧ (0 : Int) ≤ t14 ∧ t14 ≤ (l.length : Int)) <|
  bnd (sched_named N (l.take t14.toNat) ((l.getD t14.toNat default).1)) fun x2 =>
  bnd (f5 N (!x2) (5 : Int)) fun x3 =>
  bnd (sched_first N ([x1, x3] : List Int)) fun x4 =>
  br ((x4 != (0 : Int))) (
  some (t14, x4)) (
  rec (w64 (t14 + (1 : Int))))) (
  K_ ())
def sched_site_bearersErr (N : Nat) (Zt : Int) (Zu : Int) (Zv : Int) (Zw : List Int) (l : List TB) : Option (Int × Int) :=
  br (decide ((l.length : Int) > (8 : Int))) (
  some ((0 : Int), (8 : Int))) (
  jn (τ := Unit) (fun (_ : Unit) =>
    bnd (q4 N Zt Zu Zv Zw l) fun x5 =>
    bnd (f5 N x5 (16 : Int)) fun x6 =>
    some ((0 : Int), x6)) fun K_ =>
  rds (sched_site_bearersErr.b1 N Zt Zu Zv Zw l K_) N (0 : Int))

def q6 (N : Nat) (Zq : Int) (Zr : Int) (Zs : Int) (Zx : List Int) (l : List TB) : Option (Int × Int) :=
  bnd (sched_open N Zq Zr Zs Zx) fun (x1, x11, x12, x13, x14) =>
  br ((x14 != (0 : Int))) (
  some ((0 : Int), x14)) (
  bnd (sched_site_bearersErr N x1 x11 x12 x13 l) fun (x2, x21) =>
  some (x2, x21))

def w4 (N : Nat) (Zq : Int) (Zr : Int) (Zs : Int) (Zx : List Int) (l : List TB) : Option (Int × Int × Int × List Int × Int) :=
  bnd (q6 N Zq Zr Zs Zx l) fun (x1, x11) =>
  some (Zq, Zr, Zs, Zx, x11)

def sched_last.b1 (N : Nat) (l : List TB) (kind : Int) (K_ : Int → Option Int) (rec : Int × Int → Option Int) : Int × Int → Option Int := fun (at_1, t10) =>
  br (decide (t10 < (l.length : Int))) (
  chk (0 ≤ t10 ∧ t10 < (l.length : Int)) <|
  chk ((((l.getD t10.toNat default).2.1 == kind) && (!(decide (at_1 < (0 : Int))))) = true → 0 ≤ at_1 ∧ at_1 < (l.length : Int)) <|
  br ((((l.getD t10.toNat default).2.1 == kind) && ((decide (at_1 < (0 : Int))) || (decide ((l.getD t10.toNat default).2.2.1 ≥ (l.getD at_1.toNat default).2.2.1))))) (
  rec (t10, w64 (t10 + (1 : Int)))) (
  rec (at_1, w64 (t10 + (1 : Int))))) (
  K_ at_1)
def sched_last (N : Nat) (l : List TB) (kind : Int) : Option Int :=
  jn (τ := Int) (fun (at_ : Int) =>
    some at_) fun K_ =>
  rds (sched_last.b1 N l kind K_) N ((-1 : Int), (0 : Int))

def sched_Admit.b1 (N : Nat) (Z1f : ByteArray) (Z1d : Int) (Z1i : Int) (Z1l : Int) (Z1h : Int) (Z1e : Int) (Z1a : Int) (Z1j : Int) (Z1b : Int) (x1 : Int) (x11 : Int) (x12 : Int) (x13 : List Int) (rec : (List TB) × List ByteArray → Option ((List TB) × List ByteArray × Int)) : (List TB) × List ByteArray → Option ((List TB) × List ByteArray × Int) := fun (b4, b6) =>
  bnd (r6 N b4) fun x9 =>
  chk (x9.length + ([(Z1f, Z1d, Z1i, Z1l, Z1h, Z1e, Z1a, Z1j, Z1b)] : List TB).length ≤ 1000000000) <|
  bnd (grd (!((b4.length : Int) == (8 : Int))) false (q4 N x1 x11 x12 x13 (x9 ++ ([(Z1f, Z1d, Z1i, Z1l, Z1h, Z1e, Z1a, Z1j, Z1b)] : List TB)))) fun x10 =>
  br (((!((b4.length : Int) == (8 : Int))) && x10)) (
  some ((x9 ++ ([(Z1f, Z1d, Z1i, Z1l, Z1h, Z1e, Z1a, Z1j, Z1b)] : List TB)), b6, (0 : Int))) (
  bnd (sched_last N b4 (1 : Int)) fun x111 =>
  jn (τ := Int) (fun (at_ : Int) =>
    br (((Z1d != (2 : Int)) || (decide (at_ < (0 : Int))))) (
    some (([] : List TB), ([] : List ByteArray), (28 : Int))) (
    chk (0 ≤ at_ ∧ at_ < (b4.length : Int)) <|
    chk (b6.length + ([(b4.getD at_.toNat default).1] : List ByteArray).length ≤ 1000000000) <|
    chk (0 ≤ at_ ∧ at_ < (w64 (at_ + (1 : Int))) ∧ (w64 (at_ + (1 : Int))) ≤ (b4.length : Int)) <|
    rec ((b4.take at_.toNat ++ b4.drop (w64 (at_ + (1 : Int))).toNat), (b6 ++ ([(b4.getD at_.toNat default).1] : List ByteArray))))) fun K_1 =>
  bnd (sched_last N b4 (0 : Int)) fun x121 =>
  br ((((b4.length : Int) == (8 : Int)) && (decide (x121 ≥ (0 : Int))))) (
  K_1 x121) (
  K_1 x111))
def sched_Admit (N : Nat) (Zq : Int) (Zr : Int) (Zs : Int) (Zx : List Int) (l : List TB) (Z1f : ByteArray) (Z1d : Int) (Z1i : Int) (Z1l : Int) (Z1h : Int) (Z1e : Int) (Z1a : Int) (Z1j : Int) (Z1b : Int) : Option ((List TB) × List ByteArray × Int) :=
  bnd (w4 N Zq Zr Zs Zx l) fun (x1, x11, x12, x13, x14) =>
  br ((x14 != (0 : Int))) (
  some (([] : List TB), ([] : List ByteArray), x14)) (
  bnd (k4 N x1 x11 x12 x13 Z1f Z1d Z1i Z1l Z1h Z1e Z1a Z1j Z1b) fun x2 =>
  bnd (sched_named N l Z1f) fun x3 =>
  bnd (f5 N (!x3) (5 : Int)) fun x4 =>
  bnd (sched_first N ([x2, x4] : List Int)) fun x5 =>
  jn (τ := Int) (fun (e : Int) =>
    br ((e != (0 : Int))) (
    some (([] : List TB), ([] : List ByteArray), e)) (
    bnd (r6 N l) fun x8 =>
    rds (sched_Admit.b1 N Z1f Z1d Z1i Z1l Z1h Z1e Z1a Z1j Z1b x1 x11 x12 x13) N (x8, ([] : List ByteArray)))) fun K_ =>
  br ((x5 == (0 : Int))) (
  bnd (q4 N x1 x11 x12 x13 ([(Z1f, Z1d, Z1i, Z1l, Z1h, Z1e, Z1a, Z1j, Z1b)] : List TB)) fun x6 =>
  bnd (f5 N x6 (8 : Int)) fun x7 =>
  K_ x7) (
  K_ x5))

def law06_Best (N : Nat)  : Option (ByteArray × Int × Int × Int × Int × Int × Int × Int × Int) :=
  some ((⟨#[98]⟩ : ByteArray), (0 : Int), (0 : Int), (1 : Int), (10 : Int), (0 : Int), (0 : Int), (0 : Int), (0 : Int))

def n2 (N : Nat) (Zt : Int) (Zu : Int) (Zv : Int) (Zw : List Int) (l : List (List Int × List Int)) (t16 : Int) (K_1 : Unit → Option Int) (rec1 : Int → Option Int) : Int → Option Int := fun t35 =>
  br (decide (t35 < (((l.getD t16.toNat default).1).length : Int))) (
  chk (0 ≤ t35 ∧ t35 < (((l.getD t16.toNat default).1).length : Int)) <|
  bnd (m8 N Zt Zu Zv Zw (((l.getD t16.toNat default).1).getD t35.toNat 0)) fun x1 =>
  chk (x1 = true → 0 ≤ t35 ∧ t35 < (((l.getD t16.toNat default).2).length : Int)) <|
  bnd (grd x1 false (g8 N (((l.getD t16.toNat default).2).getD t35.toNat 0) (0 : Int) (1000000 : Int))) fun x2 =>
  br (((!x1) || (!x2))) (
  some (2 : Int)) (
  rec1 (w64 (t35 + (1 : Int))))) (
  K_1 ())
def sched_site_slotsErr.b1 (N : Nat) (Zt : Int) (Zu : Int) (Zv : Int) (Zw : List Int) (bearers : Int) (l : List (List Int × List Int)) (K_ : Unit → Option Int) (rec : Int → Option Int) : Int → Option Int := fun t16 =>
  br (decide (t16 < (l.length : Int))) (
  jn (τ := Unit) (fun (_ : Unit) =>
    rec (w64 (t16 + (1 : Int)))) fun K_1 =>
  chk (0 ≤ t16 ∧ t16 < (l.length : Int)) <|
  br ((((((l.getD t16.toNat default).1).length : Int) != bearers) || ((((l.getD t16.toNat default).2).length : Int) != bearers))) (
  some (10 : Int)) (
  rds (n2 N Zt Zu Zv Zw l t16 K_1) N (0 : Int))) (
  K_ ())
def sched_site_slotsErr (N : Nat) (Zt : Int) (Zu : Int) (Zv : Int) (Zw : List Int) (bearers : Int) (l : List (List Int × List Int)) : Option Int :=
  br (decide ((l.length : Int) > (60 : Int))) (
  some (8 : Int)) (
  jn (τ := Unit) (fun (_ : Unit) =>
    some (0 : Int)) fun K_ =>
  rds (sched_site_slotsErr.b1 N Zt Zu Zv Zw bearers l K_) N (0 : Int))

def sched_run_left.b1 (N : Nat) (r_users : List TU) (K_ : Int × Int × Int → Option (Int × Int × Int)) (rec : Int × Int × Int × Int → Option (Int × Int × Int)) : Int × Int × Int × Int → Option (Int × Int × Int) := fun (t30, b13, b14, b15) =>
  br (decide (t30 < (r_users.length : Int))) (
  chk (0 ≤ t30 ∧ t30 < (r_users.length : Int)) <|
  br (decide ((r_users.getD t30.toNat default).2.2.2.2.2.2.2.2.2.2.2.2.2 > (0 : Int))) (
  rec (w64 (t30 + (1 : Int)), w64 (b13 - ((r_users.getD t30.toNat default).2.2.2.2.2.2.2.2.2.2.2.2.2)), w64 (b14 - (1 : Int)), w64 (b15 - (w64 (((r_users.getD t30.toNat default).2.2.2.2.2.2.2.2.2.2.2.2.2) * ((r_users.getD t30.toNat default).2.2.2.2.1)))))) (
  rec (w64 (t30 + (1 : Int)), w64 (b13 - ((r_users.getD t30.toNat default).2.2.2.2.2.2.2.2.2.2.2.2.2)), b14, w64 (b15 - (w64 (((r_users.getD t30.toNat default).2.2.2.2.2.2.2.2.2.2.2.2.2) * ((r_users.getD t30.toNat default).2.2.2.2.1))))))) (
  K_ (b13, b14, b15))
def sched_run_left (N : Nat) (Zm : Int) (Zn : Int) (Zo : Int) (Zp : List Int) (r_users : List TU) : Option (Int × Int × Int) :=
  jn (τ := Int × Int × Int) (fun (b1, b11, b12) =>
    some (b1, b11, b12)) fun K_ =>
  rds (sched_run_left.b1 N r_users K_) N ((0 : Int), Zm, Zn, Zo)

def l0 (N : Nat) (Z14 : ByteArray) (Z12 : Int) (Z16 : Int) (Z18 : Int) (Z15 : Int) (Z13 : Int) (Z10 : Int) (Z17 : Int) (Z11 : Int) (u_need : Int) (u_waits : Int) (u_sent : Int) (u_rate : Int) (u_blocks : Int) : Option Int :=
  some (if w64 (u_blocks * u_rate) < u_waits then w64 (u_blocks * u_rate) else u_waits)

def sched_Run.b1 (N : Nat) (l : List TB) (x1 : Int) (x11 : Int) (x12 : Int) (x13 : List Int) (K_ : (List TU) → Option (List TU)) (rec : Int × (List TU) → Option (List TU)) : Int × (List TU) → Option (List TU) := fun (t13, b72) =>
  br (decide (t13 < (l.length : Int))) (
  chk (0 ≤ t13 ∧ t13 < (l.length : Int)) <|
  bnd (o8 N x1 x11 x12 x13 ((l.getD t13.toNat default).1) ((l.getD t13.toNat default).2.1) ((l.getD t13.toNat default).2.2.1) ((l.getD t13.toNat default).2.2.2.1) ((l.getD t13.toNat default).2.2.2.2.1) ((l.getD t13.toNat default).2.2.2.2.2.1) ((l.getD t13.toNat default).2.2.2.2.2.2.1) ((l.getD t13.toNat default).2.2.2.2.2.2.2.1) ((l.getD t13.toNat default).2.2.2.2.2.2.2.2)) fun (x3, x31, x32) =>
  chk (b72.length + 1 ≤ 1000000000) <|
  rec (w64 (t13 + (1 : Int)), (b72 ++ [((l.getD t13.toNat default).1, (l.getD t13.toNat default).2.1, (l.getD t13.toNat default).2.2.1, (l.getD t13.toNat default).2.2.2.1, (l.getD t13.toNat default).2.2.2.2.1, (l.getD t13.toNat default).2.2.2.2.2.1, (l.getD t13.toNat default).2.2.2.2.2.2.1, (l.getD t13.toNat default).2.2.2.2.2.2.2.1, (l.getD t13.toNat default).2.2.2.2.2.2.2.2, x3, (0 : Int), (0 : Int), (0 : Int), (0 : Int))]))) (
  K_ b72)
def sched_Run.m1 (N : Nat) (l : List TB) (x1 : Int) (x11 : Int) (x12 : Int) (x13 : List Int) : Option (List TU) :=
  jn (τ := (List TU)) (fun (b71 : (List TU)) =>
    some b71) fun K_ =>
  rds (sched_Run.b1 N l x1 x11 x12 x13 K_) N ((0 : Int), ([] : List TU))
def sched_Run.b3 (N : Nat) (slots : List (List Int × List Int)) (x13 : List Int) (b7 : List TU) (t28 : Int) (K_2 : (List TU) → Option (List Int × (List TU))) (rec2 : Int × (List TU) → Option (List Int × (List TU))) : Int × (List TU) → Option (List Int × (List TU)) := fun (t17, b77) =>
  br (decide (t17 < (b7.length : Int))) (
  chk (0 ≤ t17 ∧ t17 < (b7.length : Int)) <|
  chk (0 ≤ t17 ∧ t17 < (((slots.getD t28.toNat default).1).length : Int)) <|
  chk (0 ≤ (((slots.getD t28.toNat default).1).getD t17.toNat 0) ∧ (((slots.getD t28.toNat default).1).getD t17.toNat 0) < (x13.length : Int)) <|
  chk (0 ≤ t17 ∧ t17 < (((slots.getD t28.toNat default).2).length : Int)) <|
  chk (t17.toNat < b77.length) <|
  bnd (some (b77.set t17.toNat ((b77.getD t17.toNat default).1, (b77.getD t17.toNat default).2.1, (b77.getD t17.toNat default).2.2.1, (b77.getD t17.toNat default).2.2.2.1, (b77.getD t17.toNat default).2.2.2.2.1, (b77.getD t17.toNat default).2.2.2.2.2.1, (b77.getD t17.toNat default).2.2.2.2.2.2.1, (b77.getD t17.toNat default).2.2.2.2.2.2.2.1, (b77.getD t17.toNat default).2.2.2.2.2.2.2.2.1, (b77.getD t17.toNat default).2.2.2.2.2.2.2.2.2.1, w64 (((b77.getD t17.toNat default).2.2.2.2.2.2.2.2.2.2.1) + (((slots.getD t28.toNat default).2).getD t17.toNat 0)), (b77.getD t17.toNat default).2.2.2.2.2.2.2.2.2.2.2.1, (x13.getD ((((slots.getD t28.toNat default).1).getD t17.toNat 0).toNat) 0), (0 : Int)))) fun f =>
  bnd (p8 N ((f.getD t17.toNat default).1) ((f.getD t17.toNat default).2.1) ((f.getD t17.toNat default).2.2.1) ((f.getD t17.toNat default).2.2.2.1) ((f.getD t17.toNat default).2.2.2.2.1) ((f.getD t17.toNat default).2.2.2.2.2.1) ((f.getD t17.toNat default).2.2.2.2.2.2.1) ((f.getD t17.toNat default).2.2.2.2.2.2.2.1) ((f.getD t17.toNat default).2.2.2.2.2.2.2.2.1)) fun x6 =>
  br ((x6 && (decide ((f.getD t17.toNat default).2.2.2.2.2.2.2.2.2.2.2.2.1 > (0 : Int))))) (
  bnd (sched_ceil N ((f.getD t17.toNat default).2.2.2.2.2.2.2.2.2.2.1) ((f.getD t17.toNat default).2.2.2.2.2.2.2.2.2.2.2.2.1)) fun x7 =>
  chk (t17.toNat < f.length) <|
  bnd (some (f.set t17.toNat ((f.getD t17.toNat default).1, (f.getD t17.toNat default).2.1, (f.getD t17.toNat default).2.2.1, (f.getD t17.toNat default).2.2.2.1, (f.getD t17.toNat default).2.2.2.2.1, (f.getD t17.toNat default).2.2.2.2.2.1, (f.getD t17.toNat default).2.2.2.2.2.2.1, (f.getD t17.toNat default).2.2.2.2.2.2.2.1, (f.getD t17.toNat default).2.2.2.2.2.2.2.2.1, (f.getD t17.toNat default).2.2.2.2.2.2.2.2.2.1, (f.getD t17.toNat default).2.2.2.2.2.2.2.2.2.2.1, (f.getD t17.toNat default).2.2.2.2.2.2.2.2.2.2.2.1, (f.getD t17.toNat default).2.2.2.2.2.2.2.2.2.2.2.2.1, (if x7 < (f.getD t17.toNat default).2.2.2.2.2.2.2.2.2.1 then x7 else (f.getD t17.toNat default).2.2.2.2.2.2.2.2.2.1)))) fun f1 =>
  rec2 (w64 (t17 + (1 : Int)), f1)) (
  rec2 (w64 (t17 + (1 : Int)), f))) (
  K_2 b77)
def sched_Run.b4 (N : Nat) (b7 : List TU) (b76 : List TU) (x91 : Int) (x92 : Int) (K_4 : Int → Option Int) (rec3 : Int × Int → Option Int) : Int × Int → Option Int := fun (best1, t18) =>
  br (decide (t18 < (b7.length : Int))) (
  chk (0 ≤ t18 ∧ t18 < (b7.length : Int)) <|
  bnd (grd (decide ((b76.getD t18.toNat default).2.2.2.2.2.2.2.2.2.2.2.2.1 > (0 : Int))) 0 (l0 N ((b76.getD t18.toNat default).1) ((b76.getD t18.toNat default).2.1) ((b76.getD t18.toNat default).2.2.1) ((b76.getD t18.toNat default).2.2.2.1) ((b76.getD t18.toNat default).2.2.2.2.1) ((b76.getD t18.toNat default).2.2.2.2.2.1) ((b76.getD t18.toNat default).2.2.2.2.2.2.1) ((b76.getD t18.toNat default).2.2.2.2.2.2.2.1) ((b76.getD t18.toNat default).2.2.2.2.2.2.2.2.1) ((b76.getD t18.toNat default).2.2.2.2.2.2.2.2.2.1) ((b76.getD t18.toNat default).2.2.2.2.2.2.2.2.2.2.1) ((b76.getD t18.toNat default).2.2.2.2.2.2.2.2.2.2.2.1) ((b76.getD t18.toNat default).2.2.2.2.2.2.2.2.2.2.2.2.1) ((b76.getD t18.toNat default).2.2.2.2.2.2.2.2.2.2.2.2.2))) fun x10 =>
  bnd (some ((((decide ((b76.getD t18.toNat default).2.2.2.2.2.2.2.2.2.2.2.2.1 > (0 : Int))) && (decide ((b76.getD t18.toNat default).2.2.2.2.2.2.2.2.2.2.1 > x10))) && (decide ((b76.getD t18.toNat default).2.2.2.2.1 ≤ x92))) && ((decide ((b76.getD t18.toNat default).2.2.2.2.2.2.2.2.2.2.2.2.2 > (0 : Int))) || (decide (x91 > (0 : Int)))))) fun q =>
  bnd (grd (q && (!(decide (best1 < 0)))) 0 (l0 N ((b76.getD t18.toNat default).1) ((b76.getD t18.toNat default).2.1) ((b76.getD t18.toNat default).2.2.1) ((b76.getD t18.toNat default).2.2.2.1) ((b76.getD t18.toNat default).2.2.2.2.1) ((b76.getD t18.toNat default).2.2.2.2.2.1) ((b76.getD t18.toNat default).2.2.2.2.2.2.1) ((b76.getD t18.toNat default).2.2.2.2.2.2.2.1) ((b76.getD t18.toNat default).2.2.2.2.2.2.2.2.1) ((b76.getD t18.toNat default).2.2.2.2.2.2.2.2.2.1) ((b76.getD t18.toNat default).2.2.2.2.2.2.2.2.2.2.1) ((b76.getD t18.toNat default).2.2.2.2.2.2.2.2.2.2.2.1) ((b76.getD t18.toNat default).2.2.2.2.2.2.2.2.2.2.2.2.1) ((b76.getD t18.toNat default).2.2.2.2.2.2.2.2.2.2.2.2.2))) fun x111 =>
  chk ((q && (!(decide (best1 < 0)))) = true → best1.toNat < b7.length) <|
  chk ((q && (!(decide (best1 < 0)))) = true → best1.toNat < b7.length) <|
  chk ((q && (!(decide (best1 < 0)))) = true → best1.toNat < b7.length) <|
  bnd (grd (q && (!(decide (best1 < 0)))) 0 (l0 N ((b76.getD best1.toNat default).1) ((b76.getD best1.toNat default).2.1) ((b76.getD best1.toNat default).2.2.1) ((b76.getD best1.toNat default).2.2.2.1) ((b76.getD best1.toNat default).2.2.2.2.1) ((b76.getD best1.toNat default).2.2.2.2.2.1) ((b76.getD best1.toNat default).2.2.2.2.2.2.1) ((b76.getD best1.toNat default).2.2.2.2.2.2.2.1) ((b76.getD best1.toNat default).2.2.2.2.2.2.2.2.1) ((b76.getD best1.toNat default).2.2.2.2.2.2.2.2.2.1) ((b76.getD best1.toNat default).2.2.2.2.2.2.2.2.2.2.1) ((b76.getD best1.toNat default).2.2.2.2.2.2.2.2.2.2.2.1) ((b76.getD best1.toNat default).2.2.2.2.2.2.2.2.2.2.2.2.1) ((b76.getD best1.toNat default).2.2.2.2.2.2.2.2.2.2.2.2.2))) fun x121 =>
  br ((q && ((decide (best1 < 0)) || (decide (w64 ((w64 (((b76.getD t18.toNat default).2.2.2.2.2.2.2.2.2.2.2.1) + x111)) * ((b76.getD best1.toNat default).2.2.2.1)) < w64 ((w64 (((b76.getD best1.toNat default).2.2.2.2.2.2.2.2.2.2.2.1) + x121)) * ((b76.getD t18.toNat default).2.2.2.1))))))) (
  rec3 (((t18.toNat : Nat) : Int), w64 (t18 + (1 : Int)))) (
  chk (best1 < ((b7.length : Nat) : Int)) <|
  rec3 (best1, w64 (t18 + (1 : Int))))) (
  chk (best1 < ((b7.length : Nat) : Int)) <|
  K_4 best1)
def t3 (N : Nat) (x1 : Int) (x11 : Int) (x12 : Int) (x13 : List Int) (b7 : List TU) (b76 : List TU) : Option Int :=
  chk (b76.length = b7.length) <|
  bnd (sched_run_left N x1 x11 x12 x13 b76) fun (x9, x91, x92) =>
  br ((x9 == (0 : Int))) (
  some (-1 : Int)) (
  jn (τ := Int) (fun (best : Int) =>
    chk (best < ((b7.length : Nat) : Int)) <|
    some best) fun K_4 =>
  rds (sched_Run.b4 N b7 b76 x91 x92 K_4) N ((-1 : Int), (0 : Int)))
def sched_Run.b5 (N : Nat) (x1 : Int) (x11 : Int) (x12 : Int) (x13 : List Int) (b7 : List TU) (K_3 : (List TU) → Option (List Int × (List TU))) (rec4 : Int × (List TU) → Option (List Int × (List TU))) : Int × (List TU) → Option (List Int × (List TU)) := fun (u, b79) =>
  br (!(decide (u < 0))) (
  chk (0 ≤ u) <|
  chk (u.toNat < b7.length) <|
  chk (u.toNat < b79.length) <|
  bnd (some (b79.set u.toNat ((b79.getD u.toNat default).1, (b79.getD u.toNat default).2.1, (b79.getD u.toNat default).2.2.1, (b79.getD u.toNat default).2.2.2.1, (b79.getD u.toNat default).2.2.2.2.1, (b79.getD u.toNat default).2.2.2.2.2.1, (b79.getD u.toNat default).2.2.2.2.2.2.1, (b79.getD u.toNat default).2.2.2.2.2.2.2.1, (b79.getD u.toNat default).2.2.2.2.2.2.2.2.1, (b79.getD u.toNat default).2.2.2.2.2.2.2.2.2.1, (b79.getD u.toNat default).2.2.2.2.2.2.2.2.2.2.1, (b79.getD u.toNat default).2.2.2.2.2.2.2.2.2.2.2.1, (b79.getD u.toNat default).2.2.2.2.2.2.2.2.2.2.2.2.1, w64 (((b79.getD u.toNat default).2.2.2.2.2.2.2.2.2.2.2.2.2) + (1 : Int))))) fun f2 =>
  bnd (t3 N x1 x11 x12 x13 b7 f2) fun r_1 =>
  chk (r_1 < ((b7.length : Nat) : Int)) <|
  rec4 (r_1, f2)) (
  K_3 b79)
def sched_Run.b7 (N : Nat) (b7 : List TU) (K_6 : (List TU) × List Int → Option (List Int × (List TU))) (rec6 : Int × (List TU) × List Int → Option (List Int × (List TU))) : Int × (List TU) × List Int → Option (List Int × (List TU)) := fun (t102, b711, b111) =>
  br (decide (t102 < (b7.length : Int))) (
  chk (0 ≤ t102 ∧ t102 < (b7.length : Int)) <|
  bnd (l0 N ((b711.getD t102.toNat default).1) ((b711.getD t102.toNat default).2.1) ((b711.getD t102.toNat default).2.2.1) ((b711.getD t102.toNat default).2.2.2.1) ((b711.getD t102.toNat default).2.2.2.2.1) ((b711.getD t102.toNat default).2.2.2.2.2.1) ((b711.getD t102.toNat default).2.2.2.2.2.2.1) ((b711.getD t102.toNat default).2.2.2.2.2.2.2.1) ((b711.getD t102.toNat default).2.2.2.2.2.2.2.2.1) ((b711.getD t102.toNat default).2.2.2.2.2.2.2.2.2.1) ((b711.getD t102.toNat default).2.2.2.2.2.2.2.2.2.2.1) ((b711.getD t102.toNat default).2.2.2.2.2.2.2.2.2.2.2.1) ((b711.getD t102.toNat default).2.2.2.2.2.2.2.2.2.2.2.2.1) ((b711.getD t102.toNat default).2.2.2.2.2.2.2.2.2.2.2.2.2)) fun x18 =>
  chk (t102.toNat < b711.length) <|
  bnd (some (b711.set t102.toNat ((b711.getD t102.toNat default).1, (b711.getD t102.toNat default).2.1, (b711.getD t102.toNat default).2.2.1, (b711.getD t102.toNat default).2.2.2.1, (b711.getD t102.toNat default).2.2.2.2.1, (b711.getD t102.toNat default).2.2.2.2.2.1, (b711.getD t102.toNat default).2.2.2.2.2.2.1, (b711.getD t102.toNat default).2.2.2.2.2.2.2.1, (b711.getD t102.toNat default).2.2.2.2.2.2.2.2.1, (b711.getD t102.toNat default).2.2.2.2.2.2.2.2.2.1, w64 (((b711.getD t102.toNat default).2.2.2.2.2.2.2.2.2.2.1) - x18), w64 (((b711.getD t102.toNat default).2.2.2.2.2.2.2.2.2.2.2.1) + x18), (b711.getD t102.toNat default).2.2.2.2.2.2.2.2.2.2.2.2.1, (b711.getD t102.toNat default).2.2.2.2.2.2.2.2.2.2.2.2.2))) fun f3 =>
  chk (b111.length + ([(f3.getD t102.toNat default).2.2.2.2.2.2.2.2.2.2.2.2.2] : List Int).length ≤ 1000000000) <|
  rec6 (w64 (t102 + (1 : Int)), f3, (b111 ++ ([(f3.getD t102.toNat default).2.2.2.2.2.2.2.2.2.2.2.2.2] : List Int)))) (
  K_6 (b711, b111))
def sched_Run.m129 (N : Nat) (slots : List (List Int × List Int)) (x1 : Int) (x11 : Int) (x12 : Int) (x13 : List Int) (b7 : List TU) (t28 : Int) (b74 : List TU) : Option (List Int × (List TU)) :=
  jn (τ := (List TU)) (fun (b76 : (List TU)) =>
    jn (τ := (List TU)) (fun (b78 : (List TU)) =>
      jn (τ := (List TU) × List Int) (fun (b710, b11) =>
        some (b11, b710)) fun K_6 =>
      rds (sched_Run.b7 N b7 K_6) N ((0 : Int), b78, ([] : List Int))) fun K_3 =>
    bnd (t3 N x1 x11 x12 x13 b7 b76) fun r_ =>
    chk (r_ < ((b7.length : Nat) : Int)) <|
    rds (sched_Run.b5 N x1 x11 x12 x13 b7 K_3) N (r_, b76)) fun K_2 =>
  rds (sched_Run.b3 N slots x13 b7 t28 K_2) N ((0 : Int), b74)
def sched_Run.b2 (N : Nat) (slots : List (List Int × List Int)) (x1 : Int) (x11 : Int) (x12 : Int) (x13 : List Int) (b7 : List TU) (K_1 : (List TU) × List (List Int) → Option (List (List Int) × List Int × List Int × Int)) (rec1 : Int × (List TU) × List (List Int) → Option (List (List Int) × List Int × List Int × Int)) : Int × (List TU) × List (List Int) → Option (List (List Int) × List Int × List Int × Int) := fun (t28, b74, b91) =>
  br (decide (t28 < (slots.length : Int))) (
  chk (0 ≤ t28 ∧ t28 < (slots.length : Int)) <|
  bnd (sched_Run.m129 N slots x1 x11 x12 x13 b7 t28 b74) fun (l1, b75) =>
  chk (b91.length + ([l1] : List (List Int)).length ≤ 1000000000) <|
  rec1 (w64 (t28 + (1 : Int)), b75, (b91 ++ ([l1] : List (List Int))))) (
  K_1 (b74, b91))
def sched_Run.b8 (N : Nat) (b7 : List TU) (b73 : List TU) (K_7 : List Int × List Int → Option (List (List Int) × List Int × List Int × Int)) (rec7 : Int × List Int × List Int → Option (List (List Int) × List Int × List Int × Int)) : Int × List Int × List Int → Option (List (List Int) × List Int × List Int × Int) := fun (t46, b101, b113) =>
  br (decide (t46 < (b7.length : Int))) (
  chk (0 ≤ t46 ∧ t46 < (b7.length : Int)) <|
  chk (b101.length + ([(b73.getD t46.toNat default).2.2.2.2.2.2.2.2.2.2.2.1] : List Int).length ≤ 1000000000) <|
  chk (b113.length + ([(b73.getD t46.toNat default).2.2.2.2.2.2.2.2.2.2.1] : List Int).length ≤ 1000000000) <|
  rec7 (w64 (t46 + (1 : Int)), (b101 ++ ([(b73.getD t46.toNat default).2.2.2.2.2.2.2.2.2.2.2.1] : List Int)), (b113 ++ ([(b73.getD t46.toNat default).2.2.2.2.2.2.2.2.2.2.1] : List Int)))) (
  K_7 (b101, b113))
def sched_Run (N : Nat) (Zq : Int) (Zr : Int) (Zs : Int) (Zx : List Int) (l : List TB) (slots : List (List Int × List Int)) : Option (List (List Int) × List Int × List Int × Int) :=
  bnd (w4 N Zq Zr Zs Zx l) fun (x1, x11, x12, x13, x14) =>
  br ((x14 != (0 : Int))) (
  br ((x14 != (0 : Int))) (
  some (([] : List (List Int)), ([] : List Int), ([] : List Int), x14)) (
  none)) (
  bnd (sched_Run.m1 N l x1 x11 x12 x13) fun b7 =>
  bnd (sched_site_slotsErr N x1 x11 x12 x13 (l.length : Int) slots) fun x4 =>
  br ((x4 != (0 : Int))) (
  some (([] : List (List Int)), ([] : List Int), ([] : List Int), x4)) (
  jn (τ := (List TU) × List (List Int)) (fun (b73, b9) =>
    jn (τ := List Int × List Int) (fun (b10, b112) =>
      some (b9, b10, b112, (0 : Int))) fun K_7 =>
    rds (sched_Run.b8 N b7 b73 K_7) N ((0 : Int), ([] : List Int), ([] : List Int))) fun K_1 =>
  rds (sched_Run.b2 N slots x1 x11 x12 x13 b7 K_1) N ((0 : Int), b7, ([] : List (List Int)))))

def sched_demandErr.b1 (N : Nat) (Zj : List Int) (Zl : List Int) (K_ : Unit → Option Int) (rec : Int → Option Int) : Int → Option Int := fun t37 =>
  br (decide (t37 < (Zj.length : Int))) (
  chk (0 ≤ t37 ∧ t37 < (Zj.length : Int)) <|
  bnd (g8 N (Zj.getD t37.toNat 0) (0 : Int) (1000000 : Int)) fun x6 =>
  chk (x6 = true → 0 ≤ t37 ∧ t37 < (Zl.length : Int)) <|
  bnd (grd x6 false (g8 N (Zl.getD t37.toNat 0) (1 : Int) (100 : Int))) fun x7 =>
  br (((!x6) || (!x7))) (
  some (2 : Int)) (
  rec (w64 (t37 + (1 : Int))))) (
  K_ ())
def sched_demandErr (N : Nat) (Zk : Int) (Zj : List Int) (Zl : List Int) : Option Int :=
  bnd (g8 N Zk (0 : Int) (1000000 : Int)) fun x1 =>
  bnd (f5 N x1 (2 : Int)) fun x2 =>
  bnd (f5 N ((decide ((Zj.length : Int) > (0 : Int))) && ((Zj.length : Int) == (Zl.length : Int))) (10 : Int)) fun x3 =>
  bnd (f5 N (decide ((Zj.length : Int) ≤ (8 : Int))) (8 : Int)) fun x4 =>
  bnd (sched_first N ([x2, x3, x4] : List Int)) fun x5 =>
  br ((x5 != (0 : Int))) (
  some x5) (
  jn (τ := Unit) (fun (_ : Unit) =>
    some (0 : Int)) fun K_ =>
  rds (sched_demandErr.b1 N Zj Zl K_) N (0 : Int))

def u1 (N : Nat) (K_1 : Int → Option Int) (rec1 : Int × Int → Option Int) : Int × Int → Option Int := fun (a3, b) =>
  br ((b != (0 : Int))) (
  chk (b ≠ 0) <|
  rec1 (b, a3.tmod b)) (
  K_1 a3)
def sched_divisor.b1 (N : Nat) (l : List Int) (K_ : Int → Option Int) (rec : Int × Int → Option Int) : Int × Int → Option Int := fun (a1, t8) =>
  br (decide (t8 < (l.length : Int))) (
  jn (τ := Int) (fun (a2 : Int) =>
    rec (a2, w64 (t8 + (1 : Int)))) fun K_1 =>
  chk (0 ≤ t8 ∧ t8 < (l.length : Int)) <|
  rds (u1 N K_1) N (a1, (l.getD t8.toNat 0))) (
  K_ a1)
def sched_divisor (N : Nat) (l : List Int) : Option Int :=
  jn (τ := Int) (fun (a : Int) =>
    some a) fun K_ =>
  rds (sched_divisor.b1 N l K_) N ((0 : Int), (0 : Int))

def sched_fair.b1 (N : Nat) (Zl : List Int) (K_ : Int → Option (Int × List Int)) (rec : Int × Int → Option (Int × List Int)) : Int × Int → Option (Int × List Int) := fun (weights1, t23) =>
  br (decide (t23 < (Zl.length : Int))) (
  chk (0 ≤ t23 ∧ t23 < (Zl.length : Int)) <|
  rec (w64 (weights1 + (Zl.getD t23.toNat 0)), w64 (t23 + (1 : Int)))) (
  K_ weights1)
def sched_fair.b3 (N : Nat) (Zj : List Int) (Zl : List Int) (rec1 : Int × Int × Bool × List Bool → Option (Int × List Int)) (rec2 : Int × Int × Bool × Int × List Bool → Option (Int × List Int)) : Int × Int × Bool × Int × List Bool → Option (Int × List Int) := fun (left2, weights4, more1, t39, b22) =>
  br (decide (t39 < (Zj.length : Int))) (
  chk (0 ≤ t39 ∧ t39 < (Zj.length : Int)) <|
  chk (0 ≤ t39 ∧ t39 < (b22.length : Int)) <|
  chk ((!(b22.getD t39.toNat default)) = true → 0 ≤ t39 ∧ t39 < (Zl.length : Int)) <|
  br (((!(b22.getD t39.toNat default)) && (decide (w64 ((Zj.getD t39.toNat 0) * weights4) ≤ w64 (left2 * (Zl.getD t39.toNat 0)))))) (
  chk (0 ≤ t39 ∧ t39 < (b22.length : Int)) <|
  chk (0 ≤ t39 ∧ t39 < (Zl.length : Int)) <|
  rec2 (w64 (left2 - (Zj.getD t39.toNat 0)), w64 (weights4 - (Zl.getD t39.toNat 0)), true, w64 (t39 + (1 : Int)), (b22.set t39.toNat true))) (
  rec2 (left2, weights4, more1, w64 (t39 + (1 : Int)), b22))) (
  rec1 (left2, weights4, more1, b22))
def w7 (N : Nat) (Zj : List Int) (Zl : List Int) (K_1 : Int × Int × List Bool → Option (Int × List Int)) (rec1 : Int × Int × Bool × List Bool → Option (Int × List Int)) : Int × Int × Bool × List Bool → Option (Int × List Int) := fun (left1, weights3, more, b21) =>
  br (more) (
  rds (sched_fair.b3 N Zj Zl rec1) N (left1, weights3, false, (0 : Int), b21)) (
  K_1 (left1, weights3, b21))
def sched_fair.b4 (N : Nat) (Zj : List Int) (Zl : List Int) (left : Int) (weights2 : Int) (b2 : List Bool) (K_2 : Int × List Int → Option (Int × List Int)) (rec3 : Int × Int × List Int → Option (Int × List Int)) : Int × Int × List Int → Option (Int × List Int) := fun (common1, t83, b41) =>
  br (decide (t83 < (Zj.length : Int))) (
  chk (0 ≤ t83 ∧ t83 < (Zj.length : Int)) <|
  chk (0 ≤ t83 ∧ t83 < (Zl.length : Int)) <|
  chk (0 ≤ t83 ∧ t83 < (b2.length : Int)) <|
  br ((b2.getD t83.toNat default)) (
  chk (b41.length + ([w64 ((Zj.getD t83.toNat 0) * (if (1 : Int) < weights2 then weights2 else (1 : Int)))] : List Int).length ≤ 1000000000) <|
  bnd (sched_divisor N ([common1, w64 ((Zj.getD t83.toNat 0) * (if (1 : Int) < weights2 then weights2 else (1 : Int)))] : List Int)) fun x1 =>
  rec3 (x1, w64 (t83 + (1 : Int)), (b41 ++ ([w64 ((Zj.getD t83.toNat 0) * (if (1 : Int) < weights2 then weights2 else (1 : Int)))] : List Int)))) (
  chk (b41.length + ([w64 (left * (Zl.getD t83.toNat 0))] : List Int).length ≤ 1000000000) <|
  bnd (sched_divisor N ([common1, w64 (left * (Zl.getD t83.toNat 0))] : List Int)) fun x2 =>
  rec3 (x2, w64 (t83 + (1 : Int)), (b41 ++ ([w64 (left * (Zl.getD t83.toNat 0))] : List Int))))) (
  K_2 (common1, b41))
def sched_fair.b5 (N : Nat) (common : Int) (b4 : List Int) (K_3 : List Int → Option (Int × List Int)) (rec4 : Int × List Int → Option (Int × List Int)) : Int × List Int → Option (Int × List Int) := fun (t116, b43) =>
  br (decide (t116 < (b4.length : Int))) (
  chk (0 ≤ t116 ∧ t116 < (b43.length : Int)) <|
  chk (common ≠ 0) <|
  chk (0 ≤ t116 ∧ t116 < (b43.length : Int)) <|
  rec4 (w64 (t116 + (1 : Int)), (b43.set t116.toNat (w64 ((b43.getD t116.toNat 0).tdiv common))))) (
  K_3 b43)
def sched_fair (N : Nat) (Zk : Int) (Zj : List Int) (Zl : List Int) : Option (Int × List Int) :=
  jn (τ := Int) (fun (weights : Int) =>
    chk (0 ≤ (Zj.length : Int) ∧ (Zj.length : Int) ≤ 1000000000) <|
    jn (τ := Int × Int × List Bool) (fun (left, weights2, b2) =>
      jn (τ := Int × List Int) (fun (common, b4) =>
        jn (τ := List Int) (fun (b42 : List Int) =>
          chk (common ≠ 0) <|
          some (w64 ((if (1 : Int) < weights2 then weights2 else (1 : Int)).tdiv common), b42)) fun K_3 =>
        rds (sched_fair.b5 N common b4 K_3) N ((0 : Int), b4)) fun K_2 =>
      rds (sched_fair.b4 N Zj Zl left weights2 b2 K_2) N ((if (1 : Int) < weights2 then weights2 else (1 : Int)), (0 : Int), ([] : List Int))) fun K_1 =>
    rds (w7 N Zj Zl K_1) N (Zk, weights, true, (List.replicate (Zj.length : Int).toNat false))) fun K_ =>
  rds (sched_fair.b1 N Zl K_) N ((0 : Int), (0 : Int))

def sched_SharesOf (N : Nat) (Zk : Int) (Zj : List Int) (Zl : List Int) : Option (Int × List Int × Int) :=
  bnd (sched_demandErr N Zk Zj Zl) fun x1 =>
  br ((x1 != (0 : Int))) (
  some ((0 : Int), ([] : List Int), x1)) (
  bnd (sched_fair N Zk Zj Zl) fun (x2, x21) =>
  some (x2, x21, (0 : Int)))

def slices_IndexFunc_ii.b1 (N : Nat) (s : List Int) (f : Int → Option Bool) (K_ : Unit → Option Int) (rec : Int → Option Int) : Int → Option Int := fun t8 =>
  br (decide (t8 < (s.length : Int))) (
  chk (0 ≤ t8 ∧ t8 < (s.length : Int)) <|
  bnd (f (s.getD t8.toNat 0)) fun x1 =>
  br (x1) (
  some t8) (
  rec (w64 (t8 + (1 : Int))))) (
  K_ ())
def slices_IndexFunc_ii (N : Nat) (s : List Int) (f : Int → Option Bool) : Option Int :=
  jn (τ := Unit) (fun (_ : Unit) =>
    some (-1 : Int)) fun K_ =>
  rds (slices_IndexFunc_ii.b1 N s f K_) N (0 : Int)

def n1 (N : Nat) (s : List Int) (f : Int → Option Bool) : Option Bool :=
  bnd (slices_IndexFunc_ii N s f) fun x1 =>
  some (decide (x1 ≥ (0 : Int)))

def r9 (N : Nat) (n : Int) : Option Bool :=
  bnd (g8 N n (0 : Int) (1000000 : Int)) fun x1 =>
  some (!x1)

def sched_caseErr.b1 (N : Nat) (r_ : List (List Int)) (K_ : Unit → Option Int) (rec : Int → Option Int) : Int → Option Int := fun t29 =>
  br (decide (t29 < (r_.length : Int))) (
  chk (0 ≤ t29 ∧ t29 < (r_.length : Int)) <|
  bnd (n1 N (r_.getD t29.toNat default) (fun y0 => r9 N y0)) fun x1 =>
  chk (0 ≤ (0 : Int) ∧ (0 : Int) < (r_.length : Int)) <|
  bnd (f5 N (((r_.getD t29.toNat default).length : Int) == ((r_.getD 0 default).length : Int)) (10 : Int)) fun x2 =>
  bnd (f5 N (!x1) (2 : Int)) fun x3 =>
  bnd (sched_first N ([x2, x3] : List Int)) fun x4 =>
  br ((x4 != (0 : Int))) (
  some x4) (
  rec (w64 (t29 + (1 : Int))))) (
  K_ ())
def sched_caseErr (N : Nat) (r_ : List (List Int)) : Option Int :=
  chk ((!((r_.length : Int) == (0 : Int))) = true → 0 ≤ (0 : Int) ∧ (0 : Int) < (r_.length : Int)) <|
  br ((((r_.length : Int) == (0 : Int)) || (((r_.getD 0 default).length : Int) == (0 : Int)))) (
  some (10 : Int)) (
  chk ((!(decide ((r_.length : Int) > (6 : Int)))) = true → 0 ≤ (0 : Int) ∧ (0 : Int) < (r_.length : Int)) <|
  br (((decide ((r_.length : Int) > (6 : Int))) || (decide (((r_.getD 0 default).length : Int) > (4 : Int))))) (
  some (8 : Int)) (
  jn (τ := Unit) (fun (_ : Unit) =>
    some (0 : Int)) fun K_ =>
  rds (sched_caseErr.b1 N r_ K_) N (0 : Int)))

def sched_choices (N : Nat) (turns : Int) (users : Int) : Option Unit :=
  some ()

def slices_Min_ii.b1 (N : Nat) (x : List Int) (K_1 : Int → Option Int) (rec : Int × Int → Option Int) : Int × Int → Option Int := fun (m1, i) =>
  br (decide (i < (x.length : Int))) (
  chk (0 ≤ i ∧ i < (x.length : Int)) <|
  rec ((if (x.getD i.toNat 0) < m1 then (x.getD i.toNat 0) else m1), w64 (i + (1 : Int)))) (
  K_1 m1)
def slices_Min_ii (N : Nat) (x : List Int) : Option Int :=
  jn (τ := Unit) (fun (_ : Unit) =>
    chk (0 ≤ (0 : Int) ∧ (0 : Int) < (x.length : Int)) <|
    jn (τ := Int) (fun (m : Int) =>
      some m) fun K_1 =>
    rds (slices_Min_ii.b1 N x K_1) N ((x.getD 0 0), (1 : Int))) fun K_ =>
  br (decide ((x.length : Int) < (1 : Int))) (
  none) (
  K_ ())

def sched_least.b1 (N : Nat) (r_ : List (List Int)) (turns : List Int) (K_ : List Int → Option Int) (rec : Int × List Int → Option Int) : Int × List Int → Option Int := fun (t15, b01) =>
  br (decide (t15 < (turns.length : Int))) (
  chk (0 ≤ t15 ∧ t15 < (turns.length : Int)) <|
  chk (0 ≤ (turns.getD t15.toNat 0) ∧ (turns.getD t15.toNat 0) < (b01.length : Int)) <|
  chk (0 ≤ t15 ∧ t15 < (r_.length : Int)) <|
  chk (0 ≤ (turns.getD t15.toNat 0) ∧ (turns.getD t15.toNat 0) < ((r_.getD t15.toNat default).length : Int)) <|
  chk (0 ≤ (turns.getD t15.toNat 0) ∧ (turns.getD t15.toNat 0) < (b01.length : Int)) <|
  rec (w64 (t15 + (1 : Int)), (b01.set ((turns.getD t15.toNat 0).toNat) (w64 ((b01.getD ((turns.getD t15.toNat 0).toNat) 0) + ((r_.getD t15.toNat default).getD ((turns.getD t15.toNat 0).toNat) 0)))))) (
  K_ b01)
def sched_least (N : Nat) (r_ : List (List Int)) (turns : List Int) : Option Int :=
  chk (0 ≤ (0 : Int) ∧ (0 : Int) < (r_.length : Int)) <|
  chk (0 ≤ ((r_.getD 0 default).length : Int) ∧ ((r_.getD 0 default).length : Int) ≤ 1000000000) <|
  jn (τ := List Int) (fun (b0 : List Int) =>
    bnd (slices_Min_ii N b0) fun x1 =>
    some x1) fun K_ =>
  rds (sched_least.b1 N r_ turns K_) N ((0 : Int), (List.replicate ((r_.getD 0 default).length : Int).toNat (0 : Int)))

def q8 (N : Nat) (r_ : List (List Int)) (K_1 : Int × List Int → Option (List Int × Int × Int)) (rec1 : Int × List Int → Option (List Int × Int × Int)) : Int × List Int → Option (List Int × Int × Int) := fun (i1, b32) =>
  chk ((decide (i1 ≥ (0 : Int))) = true → 0 ≤ i1 ∧ i1 < (b32.length : Int)) <|
  br (((decide (i1 ≥ (0 : Int))) && ((b32.getD i1.toNat 0) == w64 (((r_.getD 0 default).length : Int) - (1 : Int))))) (
  chk (0 ≤ i1 ∧ i1 < (b32.length : Int)) <|
  rec1 (w64 (i1 - (1 : Int)), (b32.set i1.toNat (0 : Int)))) (
  K_1 (i1, b32))
def q7 (N : Nat) (r_ : List (List Int)) (K_2 : Int × List Int → Option (List Int × Int × Int)) (rec2 : Int × List Int → Option (List Int × Int × Int)) : Int × List Int → Option (List Int × Int × Int) := fun (i3, b34) =>
  chk ((decide (i3 ≥ (0 : Int))) = true → 0 ≤ i3 ∧ i3 < (b34.length : Int)) <|
  br (((decide (i3 ≥ (0 : Int))) && ((b34.getD i3.toNat 0) == w64 (((r_.getD 0 default).length : Int) - (1 : Int))))) (
  chk (0 ≤ i3 ∧ i3 < (b34.length : Int)) <|
  rec2 (w64 (i3 - (1 : Int)), (b34.set i3.toNat (0 : Int)))) (
  K_2 (i3, b34))
def sched_BestTurns.b1 (N : Nat) (r_ : List (List Int)) (K_ : List Int × Int → Option (List Int × Int × Int)) (rec : List Int × Int × List Int → Option (List Int × Int × Int)) : List Int × Int × List Int → Option (List Int × Int × Int) := fun (b11, b21, b3) =>
  bnd (sched_least N r_ b3) fun x3 =>
  br (decide (x3 > b21)) (
  bnd (v8 N b3) fun x4 =>
  br (true) (
  jn (τ := Int × List Int) (fun (i, b31) =>
    br (decide (i < (0 : Int))) (
    K_ (x4, x3)) (
    chk (0 ≤ i ∧ i < (b31.length : Int)) <|
    chk (0 ≤ i ∧ i < (b31.length : Int)) <|
    rec (x4, x3, (b31.set i.toNat (w64 ((b31.getD i.toNat 0) + (1 : Int))))))) fun K_1 =>
  rds (q8 N r_ K_1) N (w64 ((r_.length : Int) - (1 : Int)), b3)) (
  none)) (
  br (true) (
  jn (τ := Int × List Int) (fun (i2, b33) =>
    br (decide (i2 < (0 : Int))) (
    K_ (b11, b21)) (
    chk (0 ≤ i2 ∧ i2 < (b33.length : Int)) <|
    chk (0 ≤ i2 ∧ i2 < (b33.length : Int)) <|
    rec (b11, b21, (b33.set i2.toNat (w64 ((b33.getD i2.toNat 0) + (1 : Int))))))) fun K_2 =>
  rds (q7 N r_ K_2) N (w64 ((r_.length : Int) - (1 : Int)), b3)) (
  none))
def sched_BestTurns (N : Nat) (r_ : List (List Int)) : Option (List Int × Int × Int) :=
  bnd (sched_caseErr N r_) fun x1 =>
  br ((x1 != (0 : Int))) (
  some (([] : List Int), (0 : Int), x1)) (
  jn (τ := List Int × Int) (fun (b1, b2) =>
    some (b1, b2, (0 : Int))) fun K_ =>
  chk (0 ≤ (0 : Int) ∧ (0 : Int) < (r_.length : Int)) <|
  bnd (sched_choices N (r_.length : Int) ((r_.getD 0 default).length : Int)) fun _ =>
  chk (0 ≤ (r_.length : Int) ∧ (r_.length : Int) ≤ 1000000000) <|
  rds (sched_BestTurns.b1 N r_ K_) N (([] : List Int), (-1 : Int), (List.replicate (r_.length : Int).toNat (0 : Int))))

def base_Texts.b1 (N : Nat) (a : List ByteArray) (b : List ByteArray) (K_ : Unit → Option Bool) (rec : Int → Option Bool) : Int → Option Bool := fun i =>
  br (decide (i < (a.length : Int))) (
  chk (0 ≤ i ∧ i < (a.length : Int)) <|
  chk (0 ≤ i ∧ i < (b.length : Int)) <|
  br ((!((a.getD i.toNat default).toList == (b.getD i.toNat default).toList))) (
  some false) (
  rec (w64 (i + (1 : Int))))) (
  K_ ())
def base_Texts (N : Nat) (a : List ByteArray) (b : List ByteArray) : Option Bool :=
  br (((a.length : Int) != (b.length : Int))) (
  some false) (
  jn (τ := Unit) (fun (_ : Unit) =>
    some true) fun K_ =>
  rds (base_Texts.b1 N a b K_) N (0 : Int))

def ref06_SameAdmission.b1 (N : Nat) (Z0 : List TB) (Z7 : List TB) (K_ : Unit → Option Bool) (rec : Int → Option Bool) : Int → Option Bool := fun i =>
  br (decide (i < (Z0.length : Int))) (
  chk (0 ≤ i ∧ i < (Z0.length : Int)) <|
  chk (0 ≤ i ∧ i < (Z7.length : Int)) <|
  br (!((((Z0.getD i.toNat default).1).toList == ((Z7.getD i.toNat default).1).toList) && (((Z0.getD i.toNat default).2.1 == (Z7.getD i.toNat default).2.1) && (((Z0.getD i.toNat default).2.2.1 == (Z7.getD i.toNat default).2.2.1) && (((Z0.getD i.toNat default).2.2.2.1 == (Z7.getD i.toNat default).2.2.2.1) && (((Z0.getD i.toNat default).2.2.2.2.1 == (Z7.getD i.toNat default).2.2.2.2.1) && (((Z0.getD i.toNat default).2.2.2.2.2.1 == (Z7.getD i.toNat default).2.2.2.2.2.1) && (((Z0.getD i.toNat default).2.2.2.2.2.2.1 == (Z7.getD i.toNat default).2.2.2.2.2.2.1) && (((Z0.getD i.toNat default).2.2.2.2.2.2.2.1 == (Z7.getD i.toNat default).2.2.2.2.2.2.2.1) && ((Z0.getD i.toNat default).2.2.2.2.2.2.2.2 == (Z7.getD i.toNat default).2.2.2.2.2.2.2.2)))))))))) (
  some false) (
  rec (w64 (i + (1 : Int))))) (
  K_ ())
def ref06_SameAdmission (N : Nat) (Z0 : List TB) (Z5 : List ByteArray) (Z7 : List TB) (Zc : List ByteArray) : Option Bool :=
  br (((Z0.length : Int) != (Z7.length : Int))) (
  some false) (
  jn (τ := Unit) (fun (_ : Unit) =>
    bnd (base_Texts N Z5 Zc) fun x1 =>
    some x1) fun K_ =>
  rds (ref06_SameAdmission.b1 N Z0 Z7 K_) N (0 : Int))

def base_Ints.b1 (N : Nat) (a : List Int) (b : List Int) (K_ : Unit → Option Bool) (rec : Int → Option Bool) : Int → Option Bool := fun i =>
  br (decide (i < (a.length : Int))) (
  chk (0 ≤ i ∧ i < (a.length : Int)) <|
  chk (0 ≤ i ∧ i < (b.length : Int)) <|
  br (((a.getD i.toNat 0) != (b.getD i.toNat 0))) (
  some false) (
  rec (w64 (i + (1 : Int))))) (
  K_ ())
def base_Ints (N : Nat) (a : List Int) (b : List Int) : Option Bool :=
  br (((a.length : Int) != (b.length : Int))) (
  some false) (
  jn (τ := Unit) (fun (_ : Unit) =>
    some true) fun K_ =>
  rds (base_Ints.b1 N a b K_) N (0 : Int))

def base_Lists.b1 (N : Nat) (a : List (List Int)) (b : List (List Int)) (K_ : Unit → Option Bool) (rec : Int → Option Bool) : Int → Option Bool := fun i =>
  br (decide (i < (a.length : Int))) (
  chk (0 ≤ i ∧ i < (a.length : Int)) <|
  chk (0 ≤ i ∧ i < (b.length : Int)) <|
  bnd (base_Ints N (a.getD i.toNat default) (b.getD i.toNat default)) fun x1 =>
  br (!x1) (
  some false) (
  rec (w64 (i + (1 : Int))))) (
  K_ ())
def base_Lists (N : Nat) (a : List (List Int)) (b : List (List Int)) : Option Bool :=
  br (((a.length : Int) != (b.length : Int))) (
  some false) (
  jn (τ := Unit) (fun (_ : Unit) =>
    some true) fun K_ =>
  rds (base_Lists.b1 N a b K_) N (0 : Int))

def w8 (N : Nat) (Z1 : List (List Int)) (Z6 : List Int) (Z3 : List Int) (Z8 : List (List Int)) (Zd : List Int) (Za : List Int) : Option Bool :=
  bnd (base_Lists N Z1 Z8) fun x1 =>
  bnd (grd x1 false (base_Ints N Z6 Zd)) fun x2 =>
  bnd (grd (x1 && x2) false (base_Ints N Z3 Za)) fun x3 =>
  some ((x1 && x2) && x3)

def u2 (N : Nat) (Z2 : Int) (Z4 : List Int) (Z9 : Int) (Zb : List Int) : Option Bool :=
  bnd (grd (Z2 == Z9) false (base_Ints N Z4 Zb)) fun x1 =>
  some ((Z2 == Z9) && x1)

def law06_awake (N : Nat)  : Option Bool :=
  bnd (law06_Site N ) fun (x1, x11, x12, x13) =>
  bnd (law06_Voice N ) fun (x2, x21, x22, x23, x24, x25, x26, x27, x28) =>
  bnd (sched_NeedOf N x1 x11 x12 x13 x2 x21 x22 x23 x24 x25 x26 x27 x28) fun (x3, x31, x32, x33) =>
  bnd (law06_Site N ) fun (x4, x41, x42, x43) =>
  bnd (law06_Voice N ) fun (x5, x51, x52, x53, x54, x55, x56, x57, x58) =>
  bnd (law06_Alarm N ) fun (x6, x61, x62, x63, x64, x65, x66, x67, x68) =>
  bnd (sched_Admit N x4 x41 x42 x43 ([(x5, x51, x52, x53, x54, x55, x56, x57, x58)] : List TB) x6 x61 x62 x63 x64 x65 x66 x67 x68) fun (x7, x71, x72) =>
  bnd (law06_Site N ) fun (x8, x81, x82, x83) =>
  bnd (law06_Voice N ) fun (x9, x91, x92, x93, x94, x95, x96, x97, x98) =>
  bnd (law06_Best N ) fun (x10, x101, x102, x103, x104, x105, x106, x107, x108) =>
  bnd (sched_Run N x8 x81 x82 x83 ([(x9, x91, x92, x93, x94, x95, x96, x97, x98), (x10, x101, x102, x103, x104, x105, x106, x107, x108)] : List TB) ([(([(1 : Int), (3 : Int)] : List Int), ([(100 : Int), (1000 : Int)] : List Int))] : List (List Int × List Int))) fun (x111, x112, x113, x114) =>
  bnd (sched_SharesOf N (10 : Int) ([(2 : Int), (10 : Int), (10 : Int)] : List Int) ([(1 : Int), (1 : Int), (2 : Int)] : List Int)) fun (x121, x122, x123) =>
  bnd (sched_BestTurns N ([([(4 : Int), (1 : Int)] : List Int), ([(3 : Int), (3 : Int)] : List Int), ([(1 : Int), (4 : Int)] : List Int)] : List (List Int))) fun (x131, x132, x133) =>
  bnd (grd (((x33 == (0 : Int)) && ((x3 == (3 : Int)) && ((x31 == (1 : Int)) && (x32 == (60 : Int))))) && (x72 == (0 : Int))) default (law06_Alarm N )) fun (x14, x141, x142, x143, x144, x145, x146, x147, x148) =>
  bnd (grd (((x33 == (0 : Int)) && ((x3 == (3 : Int)) && ((x31 == (1 : Int)) && (x32 == (60 : Int))))) && (x72 == (0 : Int))) false (ref06_SameAdmission N x7 x71 ([(x14, x141, x142, x143, x144, x145, x146, x147, x148)] : List TB) ([(⟨#[118]⟩ : ByteArray)] : List ByteArray))) fun x15 =>
  bnd (grd (((((x33 == (0 : Int)) && ((x3 == (3 : Int)) && ((x31 == (1 : Int)) && (x32 == (60 : Int))))) && (x72 == (0 : Int))) && x15) && (x114 == (0 : Int))) false (w8 N x111 x112 x113 ([([(8 : Int), (2 : Int)] : List Int)] : List (List Int)) ([(80 : Int), (80 : Int)] : List Int) ([(20 : Int), (920 : Int)] : List Int))) fun x16 =>
  bnd (grd (((((((x33 == (0 : Int)) && ((x3 == (3 : Int)) && ((x31 == (1 : Int)) && (x32 == (60 : Int))))) && (x72 == (0 : Int))) && x15) && (x114 == (0 : Int))) && x16) && (x123 == (0 : Int))) false (u2 N x121 x122 (3 : Int) ([(6 : Int), (8 : Int), (16 : Int)] : List Int))) fun x17 =>
  bnd (grd ((((((((((x33 == (0 : Int)) && ((x3 == (3 : Int)) && ((x31 == (1 : Int)) && (x32 == (60 : Int))))) && (x72 == (0 : Int))) && x15) && (x114 == (0 : Int))) && x16) && (x123 == (0 : Int))) && x17) && (x133 == (0 : Int))) && (x132 == (4 : Int))) false (base_Ints N x131 ([(0 : Int), (0 : Int), (1 : Int)] : List Int))) fun x18 =>
  some (((((((((((x33 == (0 : Int)) && ((x3 == (3 : Int)) && ((x31 == (1 : Int)) && (x32 == (60 : Int))))) && (x72 == (0 : Int))) && x15) && (x114 == (0 : Int))) && x16) && (x123 == (0 : Int))) && x17) && (x133 == (0 : Int))) && (x132 == (4 : Int))) && x18)

def p7 (N : Nat) (n : Int) (lo : Int) (hi : Int) : Option Bool :=
  some ((decide (lo ≤ n)) && (decide (n ≤ hi)))

def w9 (N : Nat) (Zh : Int) (Zi : Int) (Ze : Int) (Zg : Int) (Zf : Int) : Option Int :=
  bnd (p7 N Zi (0 : Int) (200 : Int)) fun x1 =>
  bnd (grd x1 false (p7 N Ze (0 : Int) (200 : Int))) fun x2 =>
  bnd (grd (!((!x1) || (!x2))) false (p7 N Zg (w64 (0 - (200 : Int))) (200 : Int))) fun x3 =>
  bnd (grd (!(((!x1) || (!x2)) || (!x3))) false (p7 N Zf (w64 (0 - (200 : Int))) (200 : Int))) fun x4 =>
  br (((((!x1) || (!x2)) || (!x3)) || (!x4))) (
  some (2 : Int)) (
  br (decide (Zg > Zf)) (
  some (9 : Int)) (
  bnd (p7 N Zh Zg Zf) fun x5 =>
  br (!x5) (
  some (2 : Int)) (
  some (0 : Int))))

def r8 (N : Nat) (n : Int) : Option Bool :=
  bnd (g8 N n (0 : Int) (200 : Int)) fun x1 =>
  some x1

def r7 (N : Nat) (n : Int) : Option Bool :=
  bnd (g8 N n (-200 : Int) (200 : Int)) fun x1 =>
  some x1

def w6 (N : Nat) (Zh : Int) (Zi : Int) (Ze : Int) (Zg : Int) (Zf : Int) : Option Int :=
  bnd (r8 N Zi) fun x1 =>
  bnd (grd x1 false (r8 N Ze)) fun x2 =>
  bnd (grd (x1 && x2) false (r7 N Zg)) fun x3 =>
  bnd (grd ((x1 && x2) && x3) false (r7 N Zf)) fun x4 =>
  bnd (f5 N (((x1 && x2) && x3) && x4) (2 : Int)) fun x5 =>
  bnd (f5 N (decide (Zg ≤ Zf)) (9 : Int)) fun x6 =>
  bnd (g8 N Zh Zg Zf) fun x7 =>
  bnd (f5 N x7 (2 : Int)) fun x8 =>
  bnd (sched_first N ([x5, x6, x8] : List Int)) fun x9 =>
  some x9

def sched_LoopAfter.b1 (N : Nat) (Zi : Int) (Ze : Int) (Zg : Int) (Zf : Int) (acks : List Bool) (K_ : Int → Option (Int × Int × Int × Int × Int × Int)) (rec : Int × Int → Option (Int × Int × Int × Int × Int × Int)) : Int × Int → Option (Int × Int × Int × Int × Int × Int) := fun (t23, b01) =>
  br (decide (t23 < (acks.length : Int))) (
  chk (0 ≤ t23 ∧ t23 < (acks.length : Int)) <|
  br ((acks.getD t23.toNat default)) (
  rec (w64 (t23 + (1 : Int)), (if Zf < w64 (b01 + Zi) then Zf else w64 (b01 + Zi)))) (
  rec (w64 (t23 + (1 : Int)), (if w64 (b01 - Ze) < Zg then Zg else w64 (b01 - Ze))))) (
  K_ b01)
def sched_LoopAfter (N : Nat) (Zh : Int) (Zi : Int) (Ze : Int) (Zg : Int) (Zf : Int) (acks : List Bool) : Option (Int × Int × Int × Int × Int × Int) :=
  bnd (w6 N Zh Zi Ze Zg Zf) fun x1 =>
  bnd (f5 N (decide ((acks.length : Int) ≤ (1000 : Int))) (8 : Int)) fun x2 =>
  bnd (sched_first N ([x1, x2] : List Int)) fun x3 =>
  br ((x3 != (0 : Int))) (
  some ((0 : Int), (0 : Int), (0 : Int), (0 : Int), (0 : Int), x3)) (
  jn (τ := Int) (fun (b0 : Int) =>
    some (b0, Zi, Ze, Zg, Zf, (0 : Int))) fun K_ =>
  rds (sched_LoopAfter.b1 N Zi Ze Zg Zf acks K_) N ((0 : Int), Zh))

def law06_SchedLoops.b1 (N : Nat) (acks : List Bool) (K_ : Int × List Bool → Option Bool) (rec : Int × Int × List Bool → Option Bool) : Int × Int × List Bool → Option Bool := fun (yes1, i, b21) =>
  br (decide (i ≥ (0 : Int))) (
  chk (0 ≤ i ∧ i < (acks.length : Int)) <|
  chk (b21.length + ([(acks.getD i.toNat default)] : List Bool).length ≤ 1000000000) <|
  chk (0 ≤ i ∧ i < (acks.length : Int)) <|
  br ((acks.getD i.toNat default)) (
  rec (w64 (yes1 + (1 : Int)), w64 (i - (1 : Int)), (b21 ++ ([(acks.getD i.toNat default)] : List Bool)))) (
  rec (yes1, w64 (i - (1 : Int)), (b21 ++ ([(acks.getD i.toNat default)] : List Bool))))) (
  K_ (yes1, b21))
def law06_SchedLoops (N : Nat) (Zh : Int) (Zi : Int) (Ze : Int) (Zg : Int) (Zf : Int) (acks : List Bool) : Option Bool :=
  bnd (law06_awake N ) fun x1 =>
  br (!x1) (
  some false) (
  bnd (grd (!(decide ((acks.length : Int) > (30 : Int)))) 0 (w9 N Zh Zi Ze Zg Zf)) fun x2 =>
  br (((decide ((acks.length : Int) > (30 : Int))) || (x2 != (0 : Int)))) (
  some true) (
  chk (acks.length ≤ 1000000000) <|
  bnd (sched_LoopAfter N Zh Zi Ze Zg Zf acks) fun (x3, x31, x32, x33, x34, x35) =>
  bnd (grd (!(x35 != (0 : Int))) false (p7 N x3 Zg Zf)) fun x4 =>
  br ((((((x35 != (0 : Int)) || (!x4)) || (x31 != Zi)) || (x32 != Ze)) || (!((x33 == Zg) && (x34 == Zf))))) (
  some false) (
  jn (τ := Int × List Bool) (fun (yes, b2) =>
    br (((decide (w64 (Zh + (w64 (yes * Zi))) > Zf)) || (decide (w64 (Zh - (w64 ((w64 ((acks.length : Int) - yes)) * Ze))) < Zg)))) (
    some true) (
    bnd (sched_LoopAfter N Zh Zi Ze Zg Zf b2) fun (x5, x51, x52, x53, x54, x55) =>
    some (((x55 == (0 : Int)) && ((x3 == x5) && ((x31 == x51) && ((x32 == x52) && ((x33 == x53) && (x34 == x54)))))) && (x3 == w64 ((w64 (Zh + (w64 (yes * Zi)))) - (w64 ((w64 ((acks.length : Int) - yes)) * Ze))))))) fun K_ =>
  rds (law06_SchedLoops.b1 N acks K_) N ((0 : Int), w64 ((acks.length : Int) - (1 : Int)), ([] : List Bool)))))

end
end Go.Sh
