import Derived.Test.YtabojpkmfkjjkaaSsH
set_option linter.all false
namespace Go.Sh
open Go.PW
noncomputable section
def law06_Site (N : Nat)  : Option (Int × Int × Int × List Int) :=
  some ((10 : Int), (3 : Int), (1000 : Int), ([(0 : Int), (10 : Int), (20 : Int), (40 : Int)] : List Int))

def law06_Voice (N : Nat)  : Option (ByteArray × Int × Int × Int × Int × Int × Int × Int × Int) :=
  some ((⟨#[118]⟩ : ByteArray), (1 : Int), (1 : Int), (1 : Int), (20 : Int), (1 : Int), (100 : Int), (20 : Int), (4 : Int))

def j3 (N : Nat) (n : Int) (lo : Int) (hi : Int) : Option Bool :=
  some ((decide (lo ≤ n)) && (decide (n ≤ hi)))

def i5 (N : Nat) (is_ : Bool) (e : Int) : Option Int :=
  br (is_) (
  some (0 : Int)) (
  some e)

def sched_first.b1 (N : Nat) (l : List Int) (K_ : Unit → Option Int) (rec : Int → Option Int) : Int → Option Int := fun t7 =>
  br (decide (t7 < (l.length : Int))) (
  chk (0 ≤ t7 ∧ t7 < (l.length : Int)) <|
  br (((l.getD t7.toNat 0) != (0 : Int))) (
  some (l.getD t7.toNat 0)) (
  rec (w64 (t7 + (1 : Int))))) (
  K_ ())
def sched_first (N : Nat) (l : List Int) : Option Int :=
  jn (τ := Unit) (fun (_ : Unit) =>
    some (0 : Int)) fun K_ =>
  rds (sched_first.b1 N l K_) N (0 : Int)

def sched_CheckSite.b1 (N : Nat) (Zx : List Int) (K_ : Unit → Option Int) (rec : Int × Int → Option Int) : Int × Int → Option Int := fun (before, t40) =>
  br (decide (t40 < (Zx.length : Int))) (
  chk (0 ≤ t40 ∧ t40 < (Zx.length : Int)) <|
  bnd (j3 N (Zx.getD t40.toNat 0) (0 : Int) (1000 : Int)) fun x8 =>
  bnd (i5 N x8 (2 : Int)) fun x9 =>
  bnd (i5 N (decide ((Zx.getD t40.toNat 0) ≥ before)) (9 : Int)) fun x10 =>
  bnd (sched_first N ([x9, x10] : List Int)) fun x11 =>
  br ((x11 != (0 : Int))) (
  some x11) (
  rec ((Zx.getD t40.toNat 0), w64 (t40 + (1 : Int))))) (
  K_ ())
def sched_CheckSite (N : Nat) (Zq : Int) (Zr : Int) (Zs : Int) (Zx : List Int) : Option Int :=
  bnd (j3 N Zq (1 : Int) (20 : Int)) fun x1 =>
  bnd (grd x1 false (j3 N Zr (1 : Int) (8 : Int))) fun x2 =>
  bnd (grd (x1 && x2) false (j3 N Zs (0 : Int) (100000 : Int))) fun x3 =>
  bnd (i5 N ((x1 && x2) && x3) (2 : Int)) fun x4 =>
  bnd (i5 N (decide ((Zx.length : Int) > (0 : Int))) (10 : Int)) fun x5 =>
  bnd (i5 N (decide ((Zx.length : Int) ≤ (16 : Int))) (8 : Int)) fun x6 =>
  bnd (sched_first N ([x4, x5, x6] : List Int)) fun x7 =>
  br ((x7 != (0 : Int))) (
  some x7) (
  jn (τ := Unit) (fun (_ : Unit) =>
    some (0 : Int)) fun K_ =>
  rds (sched_CheckSite.b1 N Zx K_) N ((0 : Int), (0 : Int)))

def sched_open (N : Nat) (Zq : Int) (Zr : Int) (Zs : Int) (Zx : List Int) : Option (Int × Int × Int × List Int × Int) :=
  bnd (sched_CheckSite N Zq Zr Zs Zx) fun x1 =>
  some (Zq, Zr, Zs, Zx, x1)

def sched_isName.b1 (N : Nat) (s : ByteArray) (K_ : Unit → Option Bool) (rec : Int → Option Bool) : Int → Option Bool := fun t9 =>
  br (decide (t9 < ((f7 s).length : Int))) (
  chk (0 ≤ t9 ∧ t9 < ((f7 s).length : Int)) <|
  br (((!(((decide (((f7 s).getD t9.toNat 0) ≥ (97 : Int))) && (decide (((f7 s).getD t9.toNat 0) ≤ (122 : Int)))) || ((decide (((f7 s).getD t9.toNat 0) ≥ (65 : Int))) && (decide (((f7 s).getD t9.toNat 0) ≤ (90 : Int)))))) && ((t9 == (0 : Int)) || ((((f7 s).getD t9.toNat 0) != (45 : Int)) && ((decide (((f7 s).getD t9.toNat 0) < (48 : Int))) || (decide (((f7 s).getD t9.toNat 0) > (57 : Int)))))))) (
  some false) (
  rec (w64 (t9 + (1 : Int))))) (
  K_ ())
def sched_isName (N : Nat) (s : ByteArray) : Option Bool :=
  jn (τ := Unit) (fun (_ : Unit) =>
    some ((!(s.toList == (⟨#[]⟩ : ByteArray).toList)) && (decide ((s.size : Int) ≤ (12 : Int))))) fun K_ =>
  rds (sched_isName.b1 N s K_) N (0 : Int)

def l7 (N : Nat) (Zt : Int) (Zu : Int) (Zv : Int) (Zw : List Int) (n : Int) : Option Bool :=
  bnd (j3 N n (0 : Int) (w64 ((Zw.length : Int) - (1 : Int)))) fun x1 =>
  some x1

def k9 (N : Nat) (Zt : Int) (Zu : Int) (Zv : Int) (Zw : List Int) (Z1e : ByteArray) (Z1c : Int) (Z1h : Int) (Z1j : Int) (Z1g : Int) (Z1d : Int) (Z19 : Int) (Z1i : Int) (Z1a : Int) : Option Int :=
  bnd (j3 N Z1h (0 : Int) (100 : Int)) fun x1 =>
  bnd (grd x1 false (j3 N Z1j (1 : Int) (100 : Int))) fun x2 =>
  bnd (grd (x1 && x2) false (j3 N Z1g (0 : Int) (100000 : Int))) fun x3 =>
  bnd (sched_isName N Z1e) fun x4 =>
  bnd (i5 N x4 (4 : Int)) fun x5 =>
  bnd (j3 N Z1c (0 : Int) (2 : Int)) fun x6 =>
  bnd (i5 N x6 (15 : Int)) fun x7 =>
  bnd (i5 N ((x1 && x2) && x3) (2 : Int)) fun x8 =>
  bnd (sched_first N ([x5, x7, x8] : List Int)) fun x9 =>
  br ((x9 != (0 : Int))) (
  some x9) (
  br ((Z1c == (0 : Int))) (
  bnd (i5 N ((((Z1d == (0 : Int)) && (Z19 == (0 : Int))) && (Z1i == (0 : Int))) && (Z1a == (0 : Int))) (3 : Int)) fun x10 =>
  some x10) (
  bnd (l7 N Zt Zu Zv Zw Z1d) fun x11 =>
  br (!x11) (
  some (2 : Int)) (
  bnd (j3 N Z19 (1 : Int) (1000000 : Int)) fun x12 =>
  bnd (grd x12 false (j3 N Z1i (0 : Int) (1000000 : Int))) fun x13 =>
  bnd (grd (x12 && x13) false (j3 N Z1a (1 : Int) (1000 : Int))) fun x14 =>
  bnd (i5 N ((x12 && x13) && x14) (2 : Int)) fun x15 =>
  chk (0 ≤ Z1d ∧ Z1d < (Zw.length : Int)) <|
  bnd (i5 N (decide ((Zw.getD Z1d.toNat 0) > (0 : Int))) (11 : Int)) fun x16 =>
  bnd (sched_first N ([x15, x16] : List Int)) fun x17 =>
  some x17)))

def q3 (N : Nat) (Zq : Int) (Zr : Int) (Zs : Int) (Zx : List Int) (Z1e : ByteArray) (Z1c : Int) (Z1h : Int) (Z1j : Int) (Z1g : Int) (Z1d : Int) (Z19 : Int) (Z1i : Int) (Z1a : Int) : Option (Int × Int × Int × List Int × Int) :=
  bnd (sched_open N Zq Zr Zs Zx) fun (x1, x11, x12, x13, x14) =>
  br ((x14 != (0 : Int))) (
  some (x1, x11, x12, x13, x14)) (
  bnd (k9 N x1 x11 x12 x13 Z1e Z1c Z1h Z1j Z1g Z1d Z19 Z1i Z1a) fun x2 =>
  some (x1, x11, x12, x13, x2))

def l9 (N : Nat) (Z1e : ByteArray) (Z1c : Int) (Z1h : Int) (Z1j : Int) (Z1g : Int) (Z1d : Int) (Z19 : Int) (Z1i : Int) (Z1a : Int) : Option Bool :=
  some (Z1c != (0 : Int))

def A2 (N : Nat) (n : Int) (by_ : Int) : Option Int :=
  chk (by_ ≠ 0) <|
  some (w64 ((w64 ((w64 (n + by_)) - (1 : Int))).tdiv by_))

def p5 (N : Nat) (Zt : Int) (Zu : Int) (Zv : Int) (Zw : List Int) (Z1e : ByteArray) (Z1c : Int) (Z1h : Int) (Z1j : Int) (Z1g : Int) (Z1d : Int) (Z19 : Int) (Z1i : Int) (Z1a : Int) : Option (Int × Int × Int) :=
  bnd (l9 N Z1e Z1c Z1h Z1j Z1g Z1d Z19 Z1i Z1a) fun x1 =>
  br (!x1) (
  some ((0 : Int), (0 : Int), (0 : Int))) (
  bnd (A2 N Z19 Z1a) fun x2 =>
  chk (0 ≤ Z1d ∧ Z1d < (Zw.length : Int)) <|
  bnd (A2 N (if Z1i < x2 then x2 else Z1i) (Zw.getD Z1d.toNat 0)) fun x3 =>
  some (x3, (1 : Int), w64 (x3 * Z1g)))

def sched_NeedOf (N : Nat) (Zq : Int) (Zr : Int) (Zs : Int) (Zx : List Int) (Z1e : ByteArray) (Z1c : Int) (Z1h : Int) (Z1j : Int) (Z1g : Int) (Z1d : Int) (Z19 : Int) (Z1i : Int) (Z1a : Int) : Option (Int × Int × Int × Int) :=
  bnd (q3 N Zq Zr Zs Zx Z1e Z1c Z1h Z1j Z1g Z1d Z19 Z1i Z1a) fun (x1, x11, x12, x13, x14) =>
  br ((x14 != (0 : Int))) (
  some ((0 : Int), (0 : Int), (0 : Int), x14)) (
  bnd (p5 N x1 x11 x12 x13 Z1e Z1c Z1h Z1j Z1g Z1d Z19 Z1i Z1a) fun (x2, x21, x22) =>
  some (x2, x21, x22, (0 : Int)))

def law06_Alarm (N : Nat)  : Option (ByteArray × Int × Int × Int × Int × Int × Int × Int × Int) :=
  some ((⟨#[101]⟩ : ByteArray), (2 : Int), (0 : Int), (1 : Int), (10 : Int), (1 : Int), (80 : Int), (0 : Int), (1 : Int))

def z6 (N : Nat) (Z1e : ByteArray) (Z1c : Int) (Z1h : Int) (Z1j : Int) (Z1g : Int) (Z1d : Int) (Z19 : Int) (Z1i : Int) (Z1a : Int) (a1 : ByteArray) : Option Bool :=
  some (Z1e.toList == a1.toList)

def slices_IndexFunc_api_SchedBearer_api_SchedBearer.b1 (N : Nat) (s : List TB) (f : ByteArray → Int → Int → Int → Int → Int → Int → Int → Int → Option Bool) (K_ : Unit → Option Int) (rec : Int → Option Int) : Int → Option Int := fun t8 =>
  br (decide (t8 < (s.length : Int))) (
  chk (0 ≤ t8 ∧ t8 < (s.length : Int)) <|
  bnd (f ((s.getD t8.toNat default).1) ((s.getD t8.toNat default).2.1) ((s.getD t8.toNat default).2.2.1) ((s.getD t8.toNat default).2.2.2.1) ((s.getD t8.toNat default).2.2.2.2.1) ((s.getD t8.toNat default).2.2.2.2.2.1) ((s.getD t8.toNat default).2.2.2.2.2.2.1) ((s.getD t8.toNat default).2.2.2.2.2.2.2.1) ((s.getD t8.toNat default).2.2.2.2.2.2.2.2)) fun x1 =>
  br (x1) (
  some t8) (
  rec (w64 (t8 + (1 : Int))))) (
  K_ ())
def slices_IndexFunc_api_SchedBearer_api_SchedBearer (N : Nat) (s : List TB) (f : ByteArray → Int → Int → Int → Int → Int → Int → Int → Int → Option Bool) : Option Int :=
  jn (τ := Unit) (fun (_ : Unit) =>
    some (-1 : Int)) fun K_ =>
  rds (slices_IndexFunc_api_SchedBearer_api_SchedBearer.b1 N s f K_) N (0 : Int)

def f9 (N : Nat) (s : List TB) (f : ByteArray → Int → Int → Int → Int → Int → Int → Int → Int → Option Bool) : Option Bool :=
  bnd (slices_IndexFunc_api_SchedBearer_api_SchedBearer N s f) fun x1 =>
  some (decide (x1 ≥ (0 : Int)))

def D5 (N : Nat) (l : List TB) (name : ByteArray) : Option Bool :=
  bnd (f9 N l (fun y0 y1 y2 y3 y4 y5 y6 y7 y8 => z6 N y0 y1 y2 y3 y4 y5 y6 y7 y8 name)) fun x1 =>
  some x1

def sched_site_room.b1 (N : Nat) (Zt : Int) (Zu : Int) (Zv : Int) (Zw : List Int) (l : List TB) (K_ : Int × Int × Int → Option (Int × Int × Int)) (rec : Int × Int × Int × Int → Option (Int × Int × Int)) : Int × Int × Int × Int → Option (Int × Int × Int) := fun (t21, b23, b24, b25) =>
  br (decide (t21 < (l.length : Int))) (
  chk (0 ≤ t21 ∧ t21 < (l.length : Int)) <|
  bnd (p5 N Zt Zu Zv Zw ((l.getD t21.toNat default).1) ((l.getD t21.toNat default).2.1) ((l.getD t21.toNat default).2.2.1) ((l.getD t21.toNat default).2.2.2.1) ((l.getD t21.toNat default).2.2.2.2.1) ((l.getD t21.toNat default).2.2.2.2.2.1) ((l.getD t21.toNat default).2.2.2.2.2.2.1) ((l.getD t21.toNat default).2.2.2.2.2.2.2.1) ((l.getD t21.toNat default).2.2.2.2.2.2.2.2)) fun (x1, x11, x12) =>
  rec (w64 (t21 + (1 : Int)), w64 (b23 - x1), w64 (b24 - x11), w64 (b25 - x12))) (
  K_ (b23, b24, b25))
def sched_site_room (N : Nat) (Zt : Int) (Zu : Int) (Zv : Int) (Zw : List Int) (l : List TB) : Option (Int × Int × Int) :=
  jn (τ := Int × Int × Int) (fun (b2, b21, b22) =>
    some (b2, b21, b22)) fun K_ =>
  rds (sched_site_room.b1 N Zt Zu Zv Zw l K_) N ((0 : Int), Zt, Zu, Zv)

def o9 (N : Nat) (Zt : Int) (Zu : Int) (Zv : Int) (Zw : List Int) (l : List TB) : Option Bool :=
  bnd (sched_site_room N Zt Zu Zv Zw l) fun (x1, x11, x12) =>
  some (decide ((if x12 < (if x11 < x1 then x11 else x1) then x12 else (if x11 < x1 then x11 else x1)) ≥ (0 : Int)))

def sched_site_bearersErr.b1 (N : Nat) (Zt : Int) (Zu : Int) (Zv : Int) (Zw : List Int) (l : List TB) (K_ : Unit → Option (Int × Int)) (rec : Int → Option (Int × Int)) : Int → Option (Int × Int) := fun t14 =>
  br (decide (t14 < (l.length : Int))) (
  chk (0 ≤ t14 ∧ t14 < (l.length : Int)) <|
  bnd (k9 N Zt Zu Zv Zw ((l.getD t14.toNat default).1) ((l.getD t14.toNat default).2.1) ((l.getD t14.toNat default).2.2.1) ((l.getD t14.toNat default).2.2.2.1) ((l.getD t14.toNat default).2.2.2.2.1) ((l.getD t14.toNat default).2.2.2.2.2.1) ((l.getD t14.toNat default).2.2.2.2.2.2.1) ((l.getD t14.toNat default).2.2.2.2.2.2.2.1) ((l.getD t14.toNat default).2.2.2.2.2.2.2.2)) fun x1 =>
  chk (0 ≤ (0 : Int) ∧ (0 : Int) ≤ t14 ∧ t14 ≤ (l.length : Int)) <|
  bnd (D5 N (l.take t14.toNat) ((l.getD t14.toNat default).1)) fun x2 =>
  bnd (i5 N (!x2) (5 : Int)) fun x3 =>
  bnd (sched_first N ([x1, x3] : List Int)) fun x4 =>
  br ((x4 != (0 : Int))) (
  some (t14, x4)) (
  rec (w64 (t14 + (1 : Int))))) (
  K_ ())
def sched_site_bearersErr (N : Nat) (Zt : Int) (Zu : Int) (Zv : Int) (Zw : List Int) (l : List TB) : Option (Int × Int) :=
  br (decide ((l.length : Int) > (8 : Int))) (
  some ((0 : Int), (8 : Int))) (
  jn (τ := Unit) (fun (_ : Unit) =>
    bnd (o9 N Zt Zu Zv Zw l) fun x5 =>
    bnd (i5 N x5 (16 : Int)) fun x6 =>
    some ((0 : Int), x6)) fun K_ =>
  rds (sched_site_bearersErr.b1 N Zt Zu Zv Zw l K_) N (0 : Int))

def q0 (N : Nat) (Zq : Int) (Zr : Int) (Zs : Int) (Zx : List Int) (l : List TB) : Option (Int × Int) :=
  bnd (sched_open N Zq Zr Zs Zx) fun (x1, x11, x12, x13, x14) =>
  br ((x14 != (0 : Int))) (
  some ((0 : Int), x14)) (
  bnd (sched_site_bearersErr N x1 x11 x12 x13 l) fun (x2, x21) =>
  some (x2, x21))

def t5 (N : Nat) (Zq : Int) (Zr : Int) (Zs : Int) (Zx : List Int) (l : List TB) : Option (Int × Int × Int × List Int × Int) :=
  bnd (q0 N Zq Zr Zs Zx l) fun (x1, x11) =>
  some (Zq, Zr, Zs, Zx, x11)

def sched_last.b1 (N : Nat) (l : List TB) (kind : Int) (K_ : Int → Option Int) (rec : Int × Int → Option Int) : Int × Int → Option Int := fun (at_1, t10) =>
  br (decide (t10 < (l.length : Int))) (
  chk (0 ≤ t10 ∧ t10 < (l.length : Int)) <|
  chk ((((l.getD t10.toNat default).2.1 == kind) && (!(decide (at_1 < (0 : Int))))) = true → 0 ≤ at_1 ∧ at_1 < (l.length : Int)) <|
  br ((((l.getD t10.toNat default).2.1 == kind) && ((decide (at_1 < (0 : Int))) || (decide ((l.getD t10.toNat default).2.2.1 ≥ (l.getD at_1.toNat default).2.2.1))))) (
  rec (t10, w64 (t10 + (1 : Int)))) (
  rec (at_1, w64 (t10 + (1 : Int))))) (
  K_ at_1)
def sched_last (N : Nat) (l : List TB) (kind : Int) : Option Int :=
  jn (τ := Int) (fun (at_ : Int) =>
    some at_) fun K_ =>
  rds (sched_last.b1 N l kind K_) N ((-1 : Int), (0 : Int))

def sched_Admit.b1 (N : Nat) (Z1e : ByteArray) (Z1c : Int) (Z1h : Int) (Z1j : Int) (Z1g : Int) (Z1d : Int) (Z19 : Int) (Z1i : Int) (Z1a : Int) (x1 : Int) (x11 : Int) (x12 : Int) (x13 : List Int) (rec : (List TB) × List ByteArray → Option ((List TB) × List ByteArray × Int)) : (List TB) × List ByteArray → Option ((List TB) × List ByteArray × Int) := fun (b4, b6) =>
  bnd (A9 N b4) fun x9 =>
  chk (x9.length + ([(Z1e, Z1c, Z1h, Z1j, Z1g, Z1d, Z19, Z1i, Z1a)] : List TB).length ≤ 1000000000) <|
  bnd (grd (!((b4.length : Int) == (8 : Int))) false (o9 N x1 x11 x12 x13 (x9 ++ ([(Z1e, Z1c, Z1h, Z1j, Z1g, Z1d, Z19, Z1i, Z1a)] : List TB)))) fun x10 =>
  br (((!((b4.length : Int) == (8 : Int))) && x10)) (
  some ((x9 ++ ([(Z1e, Z1c, Z1h, Z1j, Z1g, Z1d, Z19, Z1i, Z1a)] : List TB)), b6, (0 : Int))) (
  bnd (sched_last N b4 (1 : Int)) fun x111 =>
  jn (τ := Int) (fun (at_ : Int) =>
    br (((Z1c != (2 : Int)) || (decide (at_ < (0 : Int))))) (
    some (([] : List TB), ([] : List ByteArray), (28 : Int))) (
    chk (0 ≤ at_ ∧ at_ < (b4.length : Int)) <|
    chk (b6.length + ([(b4.getD at_.toNat default).1] : List ByteArray).length ≤ 1000000000) <|
    chk (0 ≤ at_ ∧ at_ < (w64 (at_ + (1 : Int))) ∧ (w64 (at_ + (1 : Int))) ≤ (b4.length : Int)) <|
    rec ((b4.take at_.toNat ++ b4.drop (w64 (at_ + (1 : Int))).toNat), (b6 ++ ([(b4.getD at_.toNat default).1] : List ByteArray))))) fun K_1 =>
  bnd (sched_last N b4 (0 : Int)) fun x121 =>
  br ((((b4.length : Int) == (8 : Int)) && (decide (x121 ≥ (0 : Int))))) (
  K_1 x121) (
  K_1 x111))
def sched_Admit (N : Nat) (Zq : Int) (Zr : Int) (Zs : Int) (Zx : List Int) (l : List TB) (Z1e : ByteArray) (Z1c : Int) (Z1h : Int) (Z1j : Int) (Z1g : Int) (Z1d : Int) (Z19 : Int) (Z1i : Int) (Z1a : Int) : Option ((List TB) × List ByteArray × Int) :=
  bnd (t5 N Zq Zr Zs Zx l) fun (x1, x11, x12, x13, x14) =>
  br ((x14 != (0 : Int))) (
  some (([] : List TB), ([] : List ByteArray), x14)) (
  bnd (k9 N x1 x11 x12 x13 Z1e Z1c Z1h Z1j Z1g Z1d Z19 Z1i Z1a) fun x2 =>
  bnd (D5 N l Z1e) fun x3 =>
  bnd (i5 N (!x3) (5 : Int)) fun x4 =>
  bnd (sched_first N ([x2, x4] : List Int)) fun x5 =>
  jn (τ := Int) (fun (e : Int) =>
    br ((e != (0 : Int))) (
    some (([] : List TB), ([] : List ByteArray), e)) (
    bnd (A9 N l) fun x8 =>
    rds (sched_Admit.b1 N Z1e Z1c Z1h Z1j Z1g Z1d Z19 Z1i Z1a x1 x11 x12 x13) N (x8, ([] : List ByteArray)))) fun K_ =>
  br ((x5 == (0 : Int))) (
  bnd (o9 N x1 x11 x12 x13 ([(Z1e, Z1c, Z1h, Z1j, Z1g, Z1d, Z19, Z1i, Z1a)] : List TB)) fun x6 =>
  bnd (i5 N x6 (8 : Int)) fun x7 =>
  K_ x7) (
  K_ x5))

def law06_Best (N : Nat)  : Option (ByteArray × Int × Int × Int × Int × Int × Int × Int × Int) :=
  some ((⟨#[98]⟩ : ByteArray), (0 : Int), (0 : Int), (1 : Int), (10 : Int), (0 : Int), (0 : Int), (0 : Int), (0 : Int))

def m8 (N : Nat) (Zt : Int) (Zu : Int) (Zv : Int) (Zw : List Int) (l : List (List Int × List Int)) (t16 : Int) (K_1 : Unit → Option Int) (rec1 : Int → Option Int) : Int → Option Int := fun t35 =>
  br (decide (t35 < (((l.getD t16.toNat default).1).length : Int))) (
  chk (0 ≤ t35 ∧ t35 < (((l.getD t16.toNat default).1).length : Int)) <|
  bnd (l7 N Zt Zu Zv Zw (((l.getD t16.toNat default).1).getD t35.toNat 0)) fun x1 =>
  chk (x1 = true → 0 ≤ t35 ∧ t35 < (((l.getD t16.toNat default).2).length : Int)) <|
  bnd (grd x1 false (j3 N (((l.getD t16.toNat default).2).getD t35.toNat 0) (0 : Int) (1000000 : Int))) fun x2 =>
  br (((!x1) || (!x2))) (
  some (2 : Int)) (
  rec1 (w64 (t35 + (1 : Int))))) (
  K_1 ())
def sched_site_slotsErr.b1 (N : Nat) (Zt : Int) (Zu : Int) (Zv : Int) (Zw : List Int) (bearers : Int) (l : List (List Int × List Int)) (K_ : Unit → Option Int) (rec : Int → Option Int) : Int → Option Int := fun t16 =>
  br (decide (t16 < (l.length : Int))) (
  jn (τ := Unit) (fun (_ : Unit) =>
    rec (w64 (t16 + (1 : Int)))) fun K_1 =>
  chk (0 ≤ t16 ∧ t16 < (l.length : Int)) <|
  br ((((((l.getD t16.toNat default).1).length : Int) != bearers) || ((((l.getD t16.toNat default).2).length : Int) != bearers))) (
  some (10 : Int)) (
  rds (m8 N Zt Zu Zv Zw l t16 K_1) N (0 : Int))) (
  K_ ())
def sched_site_slotsErr (N : Nat) (Zt : Int) (Zu : Int) (Zv : Int) (Zw : List Int) (bearers : Int) (l : List (List Int × List Int)) : Option Int :=
  br (decide ((l.length : Int) > (60 : Int))) (
  some (8 : Int)) (
  jn (τ := Unit) (fun (_ : Unit) =>
    some (0 : Int)) fun K_ =>
  rds (sched_site_slotsErr.b1 N Zt Zu Zv Zw bearers l K_) N (0 : Int))

def sched_run_left.b1 (N : Nat) (r_users : List TU) (K_ : Int × Int × Int → Option (Int × Int × Int)) (rec : Int × Int × Int × Int → Option (Int × Int × Int)) : Int × Int × Int × Int → Option (Int × Int × Int) := fun (t30, b13, b14, b15) =>
  br (decide (t30 < (r_users.length : Int))) (
  chk (0 ≤ t30 ∧ t30 < (r_users.length : Int)) <|
  br (decide ((r_users.getD t30.toNat default).2.2.2.2.2.2.2.2.2.2.2.2.2 > (0 : Int))) (
  rec (w64 (t30 + (1 : Int)), w64 (b13 - ((r_users.getD t30.toNat default).2.2.2.2.2.2.2.2.2.2.2.2.2)), w64 (b14 - (1 : Int)), w64 (b15 - (w64 (((r_users.getD t30.toNat default).2.2.2.2.2.2.2.2.2.2.2.2.2) * ((r_users.getD t30.toNat default).2.2.2.2.1)))))) (
  rec (w64 (t30 + (1 : Int)), w64 (b13 - ((r_users.getD t30.toNat default).2.2.2.2.2.2.2.2.2.2.2.2.2)), b14, w64 (b15 - (w64 (((r_users.getD t30.toNat default).2.2.2.2.2.2.2.2.2.2.2.2.2) * ((r_users.getD t30.toNat default).2.2.2.2.1))))))) (
  K_ (b13, b14, b15))
def sched_run_left (N : Nat) (Zm : Int) (Zn : Int) (Zo : Int) (Zp : List Int) (r_users : List TU) : Option (Int × Int × Int) :=
  jn (τ := Int × Int × Int) (fun (b1, b11, b12) =>
    some (b1, b11, b12)) fun K_ =>
  rds (sched_run_left.b1 N r_users K_) N ((0 : Int), Zm, Zn, Zo)

def l8 (N : Nat) (Z14 : ByteArray) (Z12 : Int) (Z16 : Int) (Z18 : Int) (Z15 : Int) (Z13 : Int) (Z10 : Int) (Z17 : Int) (Z11 : Int) (u_need : Int) (u_waits : Int) (u_sent : Int) (u_rate : Int) (u_blocks : Int) : Option Int :=
  some (if w64 (u_blocks * u_rate) < u_waits then w64 (u_blocks * u_rate) else u_waits)

def sched_Run.b1 (N : Nat) (l : List TB) (x1 : Int) (x11 : Int) (x12 : Int) (x13 : List Int) (K_ : (List TU) → Option (List TU)) (rec : Int × (List TU) → Option (List TU)) : Int × (List TU) → Option (List TU) := fun (t13, b72) =>
  br (decide (t13 < (l.length : Int))) (
  chk (0 ≤ t13 ∧ t13 < (l.length : Int)) <|
  bnd (p5 N x1 x11 x12 x13 ((l.getD t13.toNat default).1) ((l.getD t13.toNat default).2.1) ((l.getD t13.toNat default).2.2.1) ((l.getD t13.toNat default).2.2.2.1) ((l.getD t13.toNat default).2.2.2.2.1) ((l.getD t13.toNat default).2.2.2.2.2.1) ((l.getD t13.toNat default).2.2.2.2.2.2.1) ((l.getD t13.toNat default).2.2.2.2.2.2.2.1) ((l.getD t13.toNat default).2.2.2.2.2.2.2.2)) fun (x3, x31, x32) =>
  chk (b72.length + 1 ≤ 1000000000) <|
  rec (w64 (t13 + (1 : Int)), (b72 ++ [((l.getD t13.toNat default).1, (l.getD t13.toNat default).2.1, (l.getD t13.toNat default).2.2.1, (l.getD t13.toNat default).2.2.2.1, (l.getD t13.toNat default).2.2.2.2.1, (l.getD t13.toNat default).2.2.2.2.2.1, (l.getD t13.toNat default).2.2.2.2.2.2.1, (l.getD t13.toNat default).2.2.2.2.2.2.2.1, (l.getD t13.toNat default).2.2.2.2.2.2.2.2, x3, (0 : Int), (0 : Int), (0 : Int), (0 : Int))]))) (
  K_ b72)
def B2 (N : Nat) (l : List TB) (x1 : Int) (x11 : Int) (x12 : Int) (x13 : List Int) : Option (List TU) :=
  jn (τ := (List TU)) (fun (b71 : (List TU)) =>
    some b71) fun K_ =>
  rds (sched_Run.b1 N l x1 x11 x12 x13 K_) N ((0 : Int), ([] : List TU))
def D9 (N : Nat) (slots : List (List Int × List Int)) (x13 : List Int) (b7 : List TU) (t28 : Int) (K_2 : (List TU) → Option (List Int × (List TU))) (rec2 : Int × (List TU) → Option (List Int × (List TU))) : Int × (List TU) → Option (List Int × (List TU)) := fun (t17, b77) =>
  br (decide (t17 < (b7.length : Int))) (
  chk (0 ≤ t17 ∧ t17 < (b7.length : Int)) <|
  chk (0 ≤ t17 ∧ t17 < (((slots.getD t28.toNat default).1).length : Int)) <|
  chk (0 ≤ (((slots.getD t28.toNat default).1).getD t17.toNat 0) ∧ (((slots.getD t28.toNat default).1).getD t17.toNat 0) < (x13.length : Int)) <|
  chk (0 ≤ t17 ∧ t17 < (((slots.getD t28.toNat default).2).length : Int)) <|
  chk (t17.toNat < b77.length) <|
  bnd (some (b77.set t17.toNat ((b77.getD t17.toNat default).1, (b77.getD t17.toNat default).2.1, (b77.getD t17.toNat default).2.2.1, (b77.getD t17.toNat default).2.2.2.1, (b77.getD t17.toNat default).2.2.2.2.1, (b77.getD t17.toNat default).2.2.2.2.2.1, (b77.getD t17.toNat default).2.2.2.2.2.2.1, (b77.getD t17.toNat default).2.2.2.2.2.2.2.1, (b77.getD t17.toNat default).2.2.2.2.2.2.2.2.1, (b77.getD t17.toNat default).2.2.2.2.2.2.2.2.2.1, w64 (((b77.getD t17.toNat default).2.2.2.2.2.2.2.2.2.2.1) + (((slots.getD t28.toNat default).2).getD t17.toNat 0)), (b77.getD t17.toNat default).2.2.2.2.2.2.2.2.2.2.2.1, (x13.getD ((((slots.getD t28.toNat default).1).getD t17.toNat 0).toNat) 0), (0 : Int)))) fun f =>
  bnd (l9 N ((f.getD t17.toNat default).1) ((f.getD t17.toNat default).2.1) ((f.getD t17.toNat default).2.2.1) ((f.getD t17.toNat default).2.2.2.1) ((f.getD t17.toNat default).2.2.2.2.1) ((f.getD t17.toNat default).2.2.2.2.2.1) ((f.getD t17.toNat default).2.2.2.2.2.2.1) ((f.getD t17.toNat default).2.2.2.2.2.2.2.1) ((f.getD t17.toNat default).2.2.2.2.2.2.2.2.1)) fun x6 =>
  br ((x6 && (decide ((f.getD t17.toNat default).2.2.2.2.2.2.2.2.2.2.2.2.1 > (0 : Int))))) (
  bnd (A2 N ((f.getD t17.toNat default).2.2.2.2.2.2.2.2.2.2.1) ((f.getD t17.toNat default).2.2.2.2.2.2.2.2.2.2.2.2.1)) fun x7 =>
  chk (t17.toNat < f.length) <|
  bnd (some (f.set t17.toNat ((f.getD t17.toNat default).1, (f.getD t17.toNat default).2.1, (f.getD t17.toNat default).2.2.1, (f.getD t17.toNat default).2.2.2.1, (f.getD t17.toNat default).2.2.2.2.1, (f.getD t17.toNat default).2.2.2.2.2.1, (f.getD t17.toNat default).2.2.2.2.2.2.1, (f.getD t17.toNat default).2.2.2.2.2.2.2.1, (f.getD t17.toNat default).2.2.2.2.2.2.2.2.1, (f.getD t17.toNat default).2.2.2.2.2.2.2.2.2.1, (f.getD t17.toNat default).2.2.2.2.2.2.2.2.2.2.1, (f.getD t17.toNat default).2.2.2.2.2.2.2.2.2.2.2.1, (f.getD t17.toNat default).2.2.2.2.2.2.2.2.2.2.2.2.1, (if x7 < (f.getD t17.toNat default).2.2.2.2.2.2.2.2.2.1 then x7 else (f.getD t17.toNat default).2.2.2.2.2.2.2.2.2.1)))) fun f1 =>
  rec2 (w64 (t17 + (1 : Int)), f1)) (
  rec2 (w64 (t17 + (1 : Int)), f))) (
  K_2 b77)
def sched_Run.b4 (N : Nat) (b7 : List TU) (b76 : List TU) (x91 : Int) (x92 : Int) (K_4 : Int → Option Int) (rec3 : Int × Int → Option Int) : Int × Int → Option Int := fun (best1, t18) =>
  br (decide (t18 < (b7.length : Int))) (
  chk (0 ≤ t18 ∧ t18 < (b7.length : Int)) <|
  bnd (grd (decide ((b76.getD t18.toNat default).2.2.2.2.2.2.2.2.2.2.2.2.1 > (0 : Int))) 0 (l8 N ((b76.getD t18.toNat default).1) ((b76.getD t18.toNat default).2.1) ((b76.getD t18.toNat default).2.2.1) ((b76.getD t18.toNat default).2.2.2.1) ((b76.getD t18.toNat default).2.2.2.2.1) ((b76.getD t18.toNat default).2.2.2.2.2.1) ((b76.getD t18.toNat default).2.2.2.2.2.2.1) ((b76.getD t18.toNat default).2.2.2.2.2.2.2.1) ((b76.getD t18.toNat default).2.2.2.2.2.2.2.2.1) ((b76.getD t18.toNat default).2.2.2.2.2.2.2.2.2.1) ((b76.getD t18.toNat default).2.2.2.2.2.2.2.2.2.2.1) ((b76.getD t18.toNat default).2.2.2.2.2.2.2.2.2.2.2.1) ((b76.getD t18.toNat default).2.2.2.2.2.2.2.2.2.2.2.2.1) ((b76.getD t18.toNat default).2.2.2.2.2.2.2.2.2.2.2.2.2))) fun x10 =>
  bnd (some ((((decide ((b76.getD t18.toNat default).2.2.2.2.2.2.2.2.2.2.2.2.1 > (0 : Int))) && (decide ((b76.getD t18.toNat default).2.2.2.2.2.2.2.2.2.2.1 > x10))) && (decide ((b76.getD t18.toNat default).2.2.2.2.1 ≤ x92))) && ((decide ((b76.getD t18.toNat default).2.2.2.2.2.2.2.2.2.2.2.2.2 > (0 : Int))) || (decide (x91 > (0 : Int)))))) fun q =>
  bnd (grd (q && (!(decide (best1 < 0)))) 0 (l8 N ((b76.getD t18.toNat default).1) ((b76.getD t18.toNat default).2.1) ((b76.getD t18.toNat default).2.2.1) ((b76.getD t18.toNat default).2.2.2.1) ((b76.getD t18.toNat default).2.2.2.2.1) ((b76.getD t18.toNat default).2.2.2.2.2.1) ((b76.getD t18.toNat default).2.2.2.2.2.2.1) ((b76.getD t18.toNat default).2.2.2.2.2.2.2.1) ((b76.getD t18.toNat default).2.2.2.2.2.2.2.2.1) ((b76.getD t18.toNat default).2.2.2.2.2.2.2.2.2.1) ((b76.getD t18.toNat default).2.2.2.2.2.2.2.2.2.2.1) ((b76.getD t18.toNat default).2.2.2.2.2.2.2.2.2.2.2.1) ((b76.getD t18.toNat default).2.2.2.2.2.2.2.2.2.2.2.2.1) ((b76.getD t18.toNat default).2.2.2.2.2.2.2.2.2.2.2.2.2))) fun x111 =>
  chk ((q && (!(decide (best1 < 0)))) = true → best1.toNat < b7.length) <|
  chk ((q && (!(decide (best1 < 0)))) = true → best1.toNat < b7.length) <|
  chk ((q && (!(decide (best1 < 0)))) = true → best1.toNat < b7.length) <|
  bnd (grd (q && (!(decide (best1 < 0)))) 0 (l8 N ((b76.getD best1.toNat default).1) ((b76.getD best1.toNat default).2.1) ((b76.getD best1.toNat default).2.2.1) ((b76.getD best1.toNat default).2.2.2.1) ((b76.getD best1.toNat default).2.2.2.2.1) ((b76.getD best1.toNat default).2.2.2.2.2.1) ((b76.getD best1.toNat default).2.2.2.2.2.2.1) ((b76.getD best1.toNat default).2.2.2.2.2.2.2.1) ((b76.getD best1.toNat default).2.2.2.2.2.2.2.2.1) ((b76.getD best1.toNat default).2.2.2.2.2.2.2.2.2.1) ((b76.getD best1.toNat default).2.2.2.2.2.2.2.2.2.2.1) ((b76.getD best1.toNat default).2.2.2.2.2.2.2.2.2.2.2.1) ((b76.getD best1.toNat default).2.2.2.2.2.2.2.2.2.2.2.2.1) ((b76.getD best1.toNat default).2.2.2.2.2.2.2.2.2.2.2.2.2))) fun x121 =>
  br ((q && ((decide (best1 < 0)) || (decide (w64 ((w64 (((b76.getD t18.toNat default).2.2.2.2.2.2.2.2.2.2.2.1) + x111)) * ((b76.getD best1.toNat default).2.2.2.1)) < w64 ((w64 (((b76.getD best1.toNat default).2.2.2.2.2.2.2.2.2.2.2.1) + x121)) * ((b76.getD t18.toNat default).2.2.2.1))))))) (
  rec3 (((t18.toNat : Nat) : Int), w64 (t18 + (1 : Int)))) (
  chk (best1 < ((b7.length : Nat) : Int)) <|
  rec3 (best1, w64 (t18 + (1 : Int))))) (
  chk (best1 < ((b7.length : Nat) : Int)) <|
  K_4 best1)
def p4 (N : Nat) (x1 : Int) (x11 : Int) (x12 : Int) (x13 : List Int) (b7 : List TU) (b76 : List TU) : Option Int :=
  chk (b76.length = b7.length) <|
  bnd (sched_run_left N x1 x11 x12 x13 b76) fun (x9, x91, x92) =>
  br ((x9 == (0 : Int))) (
  some (-1 : Int)) (
  jn (τ := Int) (fun (best : Int) =>
    chk (best < ((b7.length : Nat) : Int)) <|
    some best) fun K_4 =>
  rds (sched_Run.b4 N b7 b76 x91 x92 K_4) N ((-1 : Int), (0 : Int)))
def D8 (N : Nat) (x1 : Int) (x11 : Int) (x12 : Int) (x13 : List Int) (b7 : List TU) (K_3 : (List TU) → Option (List Int × (List TU))) (rec4 : Int × (List TU) → Option (List Int × (List TU))) : Int × (List TU) → Option (List Int × (List TU)) := fun (u, b79) =>
  br (!(decide (u < 0))) (
  chk (0 ≤ u) <|
  chk (u.toNat < b7.length) <|
  chk (u.toNat < b79.length) <|
  bnd (some (b79.set u.toNat ((b79.getD u.toNat default).1, (b79.getD u.toNat default).2.1, (b79.getD u.toNat default).2.2.1, (b79.getD u.toNat default).2.2.2.1, (b79.getD u.toNat default).2.2.2.2.1, (b79.getD u.toNat default).2.2.2.2.2.1, (b79.getD u.toNat default).2.2.2.2.2.2.1, (b79.getD u.toNat default).2.2.2.2.2.2.2.1, (b79.getD u.toNat default).2.2.2.2.2.2.2.2.1, (b79.getD u.toNat default).2.2.2.2.2.2.2.2.2.1, (b79.getD u.toNat default).2.2.2.2.2.2.2.2.2.2.1, (b79.getD u.toNat default).2.2.2.2.2.2.2.2.2.2.2.1, (b79.getD u.toNat default).2.2.2.2.2.2.2.2.2.2.2.2.1, w64 (((b79.getD u.toNat default).2.2.2.2.2.2.2.2.2.2.2.2.2) + (1 : Int))))) fun f2 =>
  bnd (p4 N x1 x11 x12 x13 b7 f2) fun r_1 =>
  chk (r_1 < ((b7.length : Nat) : Int)) <|
  rec4 (r_1, f2)) (
  K_3 b79)
def D7 (N : Nat) (b7 : List TU) (K_6 : (List TU) × List Int → Option (List Int × (List TU))) (rec6 : Int × (List TU) × List Int → Option (List Int × (List TU))) : Int × (List TU) × List Int → Option (List Int × (List TU)) := fun (t102, b711, b111) =>
  br (decide (t102 < (b7.length : Int))) (
  chk (0 ≤ t102 ∧ t102 < (b7.length : Int)) <|
  bnd (l8 N ((b711.getD t102.toNat default).1) ((b711.getD t102.toNat default).2.1) ((b711.getD t102.toNat default).2.2.1) ((b711.getD t102.toNat default).2.2.2.1) ((b711.getD t102.toNat default).2.2.2.2.1) ((b711.getD t102.toNat default).2.2.2.2.2.1) ((b711.getD t102.toNat default).2.2.2.2.2.2.1) ((b711.getD t102.toNat default).2.2.2.2.2.2.2.1) ((b711.getD t102.toNat default).2.2.2.2.2.2.2.2.1) ((b711.getD t102.toNat default).2.2.2.2.2.2.2.2.2.1) ((b711.getD t102.toNat default).2.2.2.2.2.2.2.2.2.2.1) ((b711.getD t102.toNat default).2.2.2.2.2.2.2.2.2.2.2.1) ((b711.getD t102.toNat default).2.2.2.2.2.2.2.2.2.2.2.2.1) ((b711.getD t102.toNat default).2.2.2.2.2.2.2.2.2.2.2.2.2)) fun x18 =>
  chk (t102.toNat < b711.length) <|
  bnd (some (b711.set t102.toNat ((b711.getD t102.toNat default).1, (b711.getD t102.toNat default).2.1, (b711.getD t102.toNat default).2.2.1, (b711.getD t102.toNat default).2.2.2.1, (b711.getD t102.toNat default).2.2.2.2.1, (b711.getD t102.toNat default).2.2.2.2.2.1, (b711.getD t102.toNat default).2.2.2.2.2.2.1, (b711.getD t102.toNat default).2.2.2.2.2.2.2.1, (b711.getD t102.toNat default).2.2.2.2.2.2.2.2.1, (b711.getD t102.toNat default).2.2.2.2.2.2.2.2.2.1, w64 (((b711.getD t102.toNat default).2.2.2.2.2.2.2.2.2.2.1) - x18), w64 (((b711.getD t102.toNat default).2.2.2.2.2.2.2.2.2.2.2.1) + x18), (b711.getD t102.toNat default).2.2.2.2.2.2.2.2.2.2.2.2.1, (b711.getD t102.toNat default).2.2.2.2.2.2.2.2.2.2.2.2.2))) fun f3 =>
  chk (b111.length + ([(f3.getD t102.toNat default).2.2.2.2.2.2.2.2.2.2.2.2.2] : List Int).length ≤ 1000000000) <|
  rec6 (w64 (t102 + (1 : Int)), f3, (b111 ++ ([(f3.getD t102.toNat default).2.2.2.2.2.2.2.2.2.2.2.2.2] : List Int)))) (
  K_6 (b711, b111))
def r8 (N : Nat) (slots : List (List Int × List Int)) (x1 : Int) (x11 : Int) (x12 : Int) (x13 : List Int) (b7 : List TU) (t28 : Int) (b74 : List TU) : Option (List Int × (List TU)) :=
  jn (τ := (List TU)) (fun (b76 : (List TU)) =>
    jn (τ := (List TU)) (fun (b78 : (List TU)) =>
      jn (τ := (List TU) × List Int) (fun (b710, b11) =>
        some (b11, b710)) fun K_6 =>
      rds (D7 N b7 K_6) N ((0 : Int), b78, ([] : List Int))) fun K_3 =>
    bnd (p4 N x1 x11 x12 x13 b7 b76) fun r_ =>
    chk (r_ < ((b7.length : Nat) : Int)) <|
    rds (D8 N x1 x11 x12 x13 b7 K_3) N (r_, b76)) fun K_2 =>
  rds (D9 N slots x13 b7 t28 K_2) N ((0 : Int), b74)
def sched_Run.b2 (N : Nat) (slots : List (List Int × List Int)) (x1 : Int) (x11 : Int) (x12 : Int) (x13 : List Int) (b7 : List TU) (K_1 : (List TU) × List (List Int) → Option (List (List Int) × List Int × List Int × Int)) (rec1 : Int × (List TU) × List (List Int) → Option (List (List Int) × List Int × List Int × Int)) : Int × (List TU) × List (List Int) → Option (List (List Int) × List Int × List Int × Int) := fun (t28, b74, b91) =>
  br (decide (t28 < (slots.length : Int))) (
  chk (0 ≤ t28 ∧ t28 < (slots.length : Int)) <|
  bnd (r8 N slots x1 x11 x12 x13 b7 t28 b74) fun (l1, b75) =>
  chk (b91.length + ([l1] : List (List Int)).length ≤ 1000000000) <|
  rec1 (w64 (t28 + (1 : Int)), b75, (b91 ++ ([l1] : List (List Int))))) (
  K_1 (b74, b91))
def sched_Run.b8 (N : Nat) (b7 : List TU) (b73 : List TU) (K_7 : List Int × List Int → Option (List (List Int) × List Int × List Int × Int)) (rec7 : Int × List Int × List Int → Option (List (List Int) × List Int × List Int × Int)) : Int × List Int × List Int → Option (List (List Int) × List Int × List Int × Int) := fun (t46, b101, b113) =>
  br (decide (t46 < (b7.length : Int))) (
  chk (0 ≤ t46 ∧ t46 < (b7.length : Int)) <|
  chk (b101.length + ([(b73.getD t46.toNat default).2.2.2.2.2.2.2.2.2.2.2.1] : List Int).length ≤ 1000000000) <|
  chk (b113.length + ([(b73.getD t46.toNat default).2.2.2.2.2.2.2.2.2.2.1] : List Int).length ≤ 1000000000) <|
  rec7 (w64 (t46 + (1 : Int)), (b101 ++ ([(b73.getD t46.toNat default).2.2.2.2.2.2.2.2.2.2.2.1] : List Int)), (b113 ++ ([(b73.getD t46.toNat default).2.2.2.2.2.2.2.2.2.2.1] : List Int)))) (
  K_7 (b101, b113))
def sched_Run (N : Nat) (Zq : Int) (Zr : Int) (Zs : Int) (Zx : List Int) (l : List TB) (slots : List (List Int × List Int)) : Option (List (List Int) × List Int × List Int × Int) :=
  bnd (t5 N Zq Zr Zs Zx l) fun (x1, x11, x12, x13, x14) =>
  br ((x14 != (0 : Int))) (
  br ((x14 != (0 : Int))) (
  some (([] : List (List Int)), ([] : List Int), ([] : List Int), x14)) (
  none)) (
  bnd (B2 N l x1 x11 x12 x13) fun b7 =>
  bnd (sched_site_slotsErr N x1 x11 x12 x13 (l.length : Int) slots) fun x4 =>
  br ((x4 != (0 : Int))) (
  some (([] : List (List Int)), ([] : List Int), ([] : List Int), x4)) (
  jn (τ := (List TU) × List (List Int)) (fun (b73, b9) =>
    jn (τ := List Int × List Int) (fun (b10, b112) =>
      some (b9, b10, b112, (0 : Int))) fun K_7 =>
    rds (sched_Run.b8 N b7 b73 K_7) N ((0 : Int), ([] : List Int), ([] : List Int))) fun K_1 =>
  rds (sched_Run.b2 N slots x1 x11 x12 x13 b7 K_1) N ((0 : Int), b7, ([] : List (List Int)))))

def sched_demandErr.b1 (N : Nat) (Zj : List Int) (Zl : List Int) (K_ : Unit → Option Int) (rec : Int → Option Int) : Int → Option Int := fun t37 =>
  br (decide (t37 < (Zj.length : Int))) (
  chk (0 ≤ t37 ∧ t37 < (Zj.length : Int)) <|
  bnd (j3 N (Zj.getD t37.toNat 0) (0 : Int) (1000000 : Int)) fun x6 =>
  chk (x6 = true → 0 ≤ t37 ∧ t37 < (Zl.length : Int)) <|
  bnd (grd x6 false (j3 N (Zl.getD t37.toNat 0) (1 : Int) (100 : Int))) fun x7 =>
  br (((!x6) || (!x7))) (
  some (2 : Int)) (
  rec (w64 (t37 + (1 : Int))))) (
  K_ ())
def sched_demandErr (N : Nat) (Zk : Int) (Zj : List Int) (Zl : List Int) : Option Int :=
  bnd (j3 N Zk (0 : Int) (1000000 : Int)) fun x1 =>
  bnd (i5 N x1 (2 : Int)) fun x2 =>
  bnd (i5 N ((decide ((Zj.length : Int) > (0 : Int))) && ((Zj.length : Int) == (Zl.length : Int))) (10 : Int)) fun x3 =>
  bnd (i5 N (decide ((Zj.length : Int) ≤ (8 : Int))) (8 : Int)) fun x4 =>
  bnd (sched_first N ([x2, x3, x4] : List Int)) fun x5 =>
  br ((x5 != (0 : Int))) (
  some x5) (
  jn (τ := Unit) (fun (_ : Unit) =>
    some (0 : Int)) fun K_ =>
  rds (sched_demandErr.b1 N Zj Zl K_) N (0 : Int))

def D2 (N : Nat) (K_1 : Int → Option Int) (rec1 : Int × Int → Option Int) : Int × Int → Option Int := fun (a3, b) =>
  br ((b != (0 : Int))) (
  chk (b ≠ 0) <|
  rec1 (b, a3.tmod b)) (
  K_1 a3)
def sched_divisor.b1 (N : Nat) (l : List Int) (K_ : Int → Option Int) (rec : Int × Int → Option Int) : Int × Int → Option Int := fun (a1, t8) =>
  br (decide (t8 < (l.length : Int))) (
  jn (τ := Int) (fun (a2 : Int) =>
    rec (a2, w64 (t8 + (1 : Int)))) fun K_1 =>
  chk (0 ≤ t8 ∧ t8 < (l.length : Int)) <|
  rds (D2 N K_1) N (a1, (l.getD t8.toNat 0))) (
  K_ a1)
def sched_divisor (N : Nat) (l : List Int) : Option Int :=
  jn (τ := Int) (fun (a : Int) =>
    some a) fun K_ =>
  rds (sched_divisor.b1 N l K_) N ((0 : Int), (0 : Int))

def sched_fair.b1 (N : Nat) (Zl : List Int) (K_ : Int → Option (Int × List Int)) (rec : Int × Int → Option (Int × List Int)) : Int × Int → Option (Int × List Int) := fun (weights1, t23) =>
  br (decide (t23 < (Zl.length : Int))) (
  chk (0 ≤ t23 ∧ t23 < (Zl.length : Int)) <|
  rec (w64 (weights1 + (Zl.getD t23.toNat 0)), w64 (t23 + (1 : Int)))) (
  K_ weights1)
def sched_fair.b3 (N : Nat) (Zj : List Int) (Zl : List Int) (rec1 : Int × Int × Bool × List Bool → Option (Int × List Int)) (rec2 : Int × Int × Bool × Int × List Bool → Option (Int × List Int)) : Int × Int × Bool × Int × List Bool → Option (Int × List Int) := fun (left2, weights4, more1, t39, b22) =>
  br (decide (t39 < (Zj.length : Int))) (
  chk (0 ≤ t39 ∧ t39 < (Zj.length : Int)) <|
  chk (0 ≤ t39 ∧ t39 < (b22.length : Int)) <|
  chk ((!(b22.getD t39.toNat default)) = true → 0 ≤ t39 ∧ t39 < (Zl.length : Int)) <|
  br (((!(b22.getD t39.toNat default)) && (decide (w64 ((Zj.getD t39.toNat 0) * weights4) ≤ w64 (left2 * (Zl.getD t39.toNat 0)))))) (
  chk (0 ≤ t39 ∧ t39 < (b22.length : Int)) <|
  chk (0 ≤ t39 ∧ t39 < (Zl.length : Int)) <|
  rec2 (w64 (left2 - (Zj.getD t39.toNat 0)), w64 (weights4 - (Zl.getD t39.toNat 0)), true, w64 (t39 + (1 : Int)), (b22.set t39.toNat true))) (
  rec2 (left2, weights4, more1, w64 (t39 + (1 : Int)), b22))) (
  rec1 (left2, weights4, more1, b22))
def E7 (N : Nat) (Zj : List Int) (Zl : List Int) (K_1 : Int × Int × List Bool → Option (Int × List Int)) (rec1 : Int × Int × Bool × List Bool → Option (Int × List Int)) : Int × Int × Bool × List Bool → Option (Int × List Int) := fun (left1, weights3, more, b21) =>
  br (more) (
  rds (sched_fair.b3 N Zj Zl rec1) N (left1, weights3, false, (0 : Int), b21)) (
  K_1 (left1, weights3, b21))
def sched_fair.b4 (N : Nat) (Zj : List Int) (Zl : List Int) (left : Int) (weights2 : Int) (b2 : List Bool) (K_2 : Int × List Int → Option (Int × List Int)) (rec3 : Int × Int × List Int → Option (Int × List Int)) : Int × Int × List Int → Option (Int × List Int) := fun (common1, t83, b41) =>
  br (decide (t83 < (Zj.length : Int))) (
  chk (0 ≤ t83 ∧ t83 < (Zj.length : Int)) <|
  chk (0 ≤ t83 ∧ t83 < (Zl.length : Int)) <|
  chk (0 ≤ t83 ∧ t83 < (b2.length : Int)) <|
  br ((b2.getD t83.toNat default)) (
  chk (b41.length + ([w64 ((Zj.getD t83.toNat 0) * (if (1 : Int) < weights2 then weights2 else (1 : Int)))] : List Int).length ≤ 1000000000) <|
  bnd (sched_divisor N ([common1, w64 ((Zj.getD t83.toNat 0) * (if (1 : Int) < weights2 then weights2 else (1 : Int)))] : List Int)) fun x1 =>
  rec3 (x1, w64 (t83 + (1 : Int)), (b41 ++ ([w64 ((Zj.getD t83.toNat 0) * (if (1 : Int) < weights2 then weights2 else (1 : Int)))] : List Int)))) (
  chk (b41.length + ([w64 (left * (Zl.getD t83.toNat 0))] : List Int).length ≤ 1000000000) <|
  bnd (sched_divisor N ([common1, w64 (left * (Zl.getD t83.toNat 0))] : List Int)) fun x2 =>
  rec3 (x2, w64 (t83 + (1 : Int)), (b41 ++ ([w64 (left * (Zl.getD t83.toNat 0))] : List Int))))) (
  K_2 (common1, b41))
def sched_fair.b5 (N : Nat) (common : Int) (b4 : List Int) (K_3 : List Int → Option (Int × List Int)) (rec4 : Int × List Int → Option (Int × List Int)) : Int × List Int → Option (Int × List Int) := fun (t116, b43) =>
  br (decide (t116 < (b4.length : Int))) (
  chk (0 ≤ t116 ∧ t116 < (b43.length : Int)) <|
  chk (common ≠ 0) <|
  chk (0 ≤ t116 ∧ t116 < (b43.length : Int)) <|
  rec4 (w64 (t116 + (1 : Int)), (b43.set t116.toNat (w64 ((b43.getD t116.toNat 0).tdiv common))))) (
  K_3 b43)
def sched_fair (N : Nat) (Zk : Int) (Zj : List Int) (Zl : List Int) : Option (Int × List Int) :=
  jn (τ := Int) (fun (weights : Int) =>
    chk (0 ≤ (Zj.length : Int) ∧ (Zj.length : Int) ≤ 1000000000) <|
    jn (τ := Int × Int × List Bool) (fun (left, weights2, b2) =>
      jn (τ := Int × List Int) (fun (common, b4) =>
        jn (τ := List Int) (fun (b42 : List Int) =>
          chk (common ≠ 0) <|
          some (w64 ((if (1 : Int) < weights2 then weights2 else (1 : Int)).tdiv common), b42)) fun K_3 =>
        rds (sched_fair.b5 N common b4 K_3) N ((0 : Int), b4)) fun K_2 =>
      rds (sched_fair.b4 N Zj Zl left weights2 b2 K_2) N ((if (1 : Int) < weights2 then weights2 else (1 : Int)), (0 : Int), ([] : List Int))) fun K_1 =>
    rds (E7 N Zj Zl K_1) N (Zk, weights, true, (List.replicate (Zj.length : Int).toNat false))) fun K_ =>
  rds (sched_fair.b1 N Zl K_) N ((0 : Int), (0 : Int))

def sched_SharesOf (N : Nat) (Zk : Int) (Zj : List Int) (Zl : List Int) : Option (Int × List Int × Int) :=
  bnd (sched_demandErr N Zk Zj Zl) fun x1 =>
  br ((x1 != (0 : Int))) (
  some ((0 : Int), ([] : List Int), x1)) (
  bnd (sched_fair N Zk Zj Zl) fun (x2, x21) =>
  some (x2, x21, (0 : Int)))

def slices_IndexFunc_ii.b1 (N : Nat) (s : List Int) (f : Int → Option Bool) (K_ : Unit → Option Int) (rec : Int → Option Int) : Int → Option Int := fun t8 =>
  br (decide (t8 < (s.length : Int))) (
  chk (0 ≤ t8 ∧ t8 < (s.length : Int)) <|
  bnd (f (s.getD t8.toNat 0)) fun x1 =>
  br (x1) (
  some t8) (
  rec (w64 (t8 + (1 : Int))))) (
  K_ ())
def slices_IndexFunc_ii (N : Nat) (s : List Int) (f : Int → Option Bool) : Option Int :=
  jn (τ := Unit) (fun (_ : Unit) =>
    some (-1 : Int)) fun K_ =>
  rds (slices_IndexFunc_ii.b1 N s f K_) N (0 : Int)

def l3 (N : Nat) (s : List Int) (f : Int → Option Bool) : Option Bool :=
  bnd (slices_IndexFunc_ii N s f) fun x1 =>
  some (decide (x1 ≥ (0 : Int)))

def B1 (N : Nat) (n : Int) : Option Bool :=
  bnd (j3 N n (0 : Int) (1000000 : Int)) fun x1 =>
  some (!x1)

def sched_caseErr.b1 (N : Nat) (r_ : List (List Int)) (K_ : Unit → Option Int) (rec : Int → Option Int) : Int → Option Int := fun t29 =>
  br (decide (t29 < (r_.length : Int))) (
  chk (0 ≤ t29 ∧ t29 < (r_.length : Int)) <|
  bnd (l3 N (r_.getD t29.toNat default) (fun y0 => B1 N y0)) fun x1 =>
  chk (0 ≤ (0 : Int) ∧ (0 : Int) < (r_.length : Int)) <|
  bnd (i5 N (((r_.getD t29.toNat default).length : Int) == ((r_.getD 0 default).length : Int)) (10 : Int)) fun x2 =>
  bnd (i5 N (!x1) (2 : Int)) fun x3 =>
  bnd (sched_first N ([x2, x3] : List Int)) fun x4 =>
  br ((x4 != (0 : Int))) (
  some x4) (
  rec (w64 (t29 + (1 : Int))))) (
  K_ ())
def sched_caseErr (N : Nat) (r_ : List (List Int)) : Option Int :=
  chk ((!((r_.length : Int) == (0 : Int))) = true → 0 ≤ (0 : Int) ∧ (0 : Int) < (r_.length : Int)) <|
  br ((((r_.length : Int) == (0 : Int)) || (((r_.getD 0 default).length : Int) == (0 : Int)))) (
  some (10 : Int)) (
  chk ((!(decide ((r_.length : Int) > (6 : Int)))) = true → 0 ≤ (0 : Int) ∧ (0 : Int) < (r_.length : Int)) <|
  br (((decide ((r_.length : Int) > (6 : Int))) || (decide (((r_.getD 0 default).length : Int) > (4 : Int))))) (
  some (8 : Int)) (
  jn (τ := Unit) (fun (_ : Unit) =>
    some (0 : Int)) fun K_ =>
  rds (sched_caseErr.b1 N r_ K_) N (0 : Int)))

def sched_choices (N : Nat) (turns : Int) (users : Int) : Option Unit :=
  some ()

def slices_Min_ii.b1 (N : Nat) (x : List Int) (K_1 : Int → Option Int) (rec : Int × Int → Option Int) : Int × Int → Option Int := fun (m1, i) =>
  br (decide (i < (x.length : Int))) (
  chk (0 ≤ i ∧ i < (x.length : Int)) <|
  rec ((if (x.getD i.toNat 0) < m1 then (x.getD i.toNat 0) else m1), w64 (i + (1 : Int)))) (
  K_1 m1)
def slices_Min_ii (N : Nat) (x : List Int) : Option Int :=
  jn (τ := Unit) (fun (_ : Unit) =>
    chk (0 ≤ (0 : Int) ∧ (0 : Int) < (x.length : Int)) <|
    jn (τ := Int) (fun (m : Int) =>
      some m) fun K_1 =>
    rds (slices_Min_ii.b1 N x K_1) N ((x.getD 0 0), (1 : Int))) fun K_ =>
  br (decide ((x.length : Int) < (1 : Int))) (
  none) (
  K_ ())

def sched_least.b1 (N : Nat) (r_ : List (List Int)) (turns : List Int) (K_ : List Int → Option Int) (rec : Int × List Int → Option Int) : Int × List Int → Option Int := fun (t15, b01) =>
  br (decide (t15 < (turns.length : Int))) (
  chk (0 ≤ t15 ∧ t15 < (turns.length : Int)) <|
  chk (0 ≤ (turns.getD t15.toNat 0) ∧ (turns.getD t15.toNat 0) < (b01.length : Int)) <|
  chk (0 ≤ t15 ∧ t15 < (r_.length : Int)) <|
  chk (0 ≤ (turns.getD t15.toNat 0) ∧ (turns.getD t15.toNat 0) < ((r_.getD t15.toNat default).length : Int)) <|
  chk (0 ≤ (turns.getD t15.toNat 0) ∧ (turns.getD t15.toNat 0) < (b01.length : Int)) <|
  rec (w64 (t15 + (1 : Int)), (b01.set ((turns.getD t15.toNat 0).toNat) (w64 ((b01.getD ((turns.getD t15.toNat 0).toNat) 0) + ((r_.getD t15.toNat default).getD ((turns.getD t15.toNat 0).toNat) 0)))))) (
  K_ b01)
def sched_least (N : Nat) (r_ : List (List Int)) (turns : List Int) : Option Int :=
  chk (0 ≤ (0 : Int) ∧ (0 : Int) < (r_.length : Int)) <|
  chk (0 ≤ ((r_.getD 0 default).length : Int) ∧ ((r_.getD 0 default).length : Int) ≤ 1000000000) <|
  jn (τ := List Int) (fun (b0 : List Int) =>
    bnd (slices_Min_ii N b0) fun x1 =>
    some x1) fun K_ =>
  rds (sched_least.b1 N r_ turns K_) N ((0 : Int), (List.replicate ((r_.getD 0 default).length : Int).toNat (0 : Int)))

def A4 (N : Nat) (r_ : List (List Int)) (K_1 : Int × List Int → Option (List Int × Int × Int)) (rec1 : Int × List Int → Option (List Int × Int × Int)) : Int × List Int → Option (List Int × Int × Int) := fun (i1, b32) =>
  chk ((decide (i1 ≥ (0 : Int))) = true → 0 ≤ i1 ∧ i1 < (b32.length : Int)) <|
  br (((decide (i1 ≥ (0 : Int))) && ((b32.getD i1.toNat 0) == w64 (((r_.getD 0 default).length : Int) - (1 : Int))))) (
  chk (0 ≤ i1 ∧ i1 < (b32.length : Int)) <|
  rec1 (w64 (i1 - (1 : Int)), (b32.set i1.toNat (0 : Int)))) (
  K_1 (i1, b32))
def A3 (N : Nat) (r_ : List (List Int)) (K_2 : Int × List Int → Option (List Int × Int × Int)) (rec2 : Int × List Int → Option (List Int × Int × Int)) : Int × List Int → Option (List Int × Int × Int) := fun (i3, b34) =>
  chk ((decide (i3 ≥ (0 : Int))) = true → 0 ≤ i3 ∧ i3 < (b34.length : Int)) <|
  br (((decide (i3 ≥ (0 : Int))) && ((b34.getD i3.toNat 0) == w64 (((r_.getD 0 default).length : Int) - (1 : Int))))) (
  chk (0 ≤ i3 ∧ i3 < (b34.length : Int)) <|
  rec2 (w64 (i3 - (1 : Int)), (b34.set i3.toNat (0 : Int)))) (
  K_2 (i3, b34))
def sched_BestTurns.b1 (N : Nat) (r_ : List (List Int)) (K_ : List Int × Int → Option (List Int × Int × Int)) (rec : List Int × Int × List Int → Option (List Int × Int × Int)) : List Int × Int × List Int → Option (List Int × Int × Int) := fun (b11, b21, b3) =>
  bnd (sched_least N r_ b3) fun x3 =>
  br (decide (x3 > b21)) (
  bnd (E5 N b3) fun x4 =>
  br (true) (
  jn (τ := Int × List Int) (fun (i, b31) =>
    br (decide (i < (0 : Int))) (
    K_ (x4, x3)) (
    chk (0 ≤ i ∧ i < (b31.length : Int)) <|
    chk (0 ≤ i ∧ i < (b31.length : Int)) <|
    rec (x4, x3, (b31.set i.toNat (w64 ((b31.getD i.toNat 0) + (1 : Int))))))) fun K_1 =>
  rds (A4 N r_ K_1) N (w64 ((r_.length : Int) - (1 : Int)), b3)) (
  none)) (
  br (true) (
  jn (τ := Int × List Int) (fun (i2, b33) =>
    br (decide (i2 < (0 : Int))) (
    K_ (b11, b21)) (
    chk (0 ≤ i2 ∧ i2 < (b33.length : Int)) <|
    chk (0 ≤ i2 ∧ i2 < (b33.length : Int)) <|
    rec (b11, b21, (b33.set i2.toNat (w64 ((b33.getD i2.toNat 0) + (1 : Int))))))) fun K_2 =>
  rds (A3 N r_ K_2) N (w64 ((r_.length : Int) - (1 : Int)), b3)) (
  none))
def sched_BestTurns (N : Nat) (r_ : List (List Int)) : Option (List Int × Int × Int) :=
  bnd (sched_caseErr N r_) fun x1 =>
  br ((x1 != (0 : Int))) (
  some (([] : List Int), (0 : Int), x1)) (
  jn (τ := List Int × Int) (fun (b1, b2) =>
    some (b1, b2, (0 : Int))) fun K_ =>
  chk (0 ≤ (0 : Int) ∧ (0 : Int) < (r_.length : Int)) <|
  bnd (sched_choices N (r_.length : Int) ((r_.getD 0 default).length : Int)) fun _ =>
  chk (0 ≤ (r_.length : Int) ∧ (r_.length : Int) ≤ 1000000000) <|
  rds (sched_BestTurns.b1 N r_ K_) N (([] : List Int), (-1 : Int), (List.replicate (r_.length : Int).toNat (0 : Int))))

def base_Texts.b1 (N : Nat) (a : List ByteArray) (b : List ByteArray) (K_ : Unit → Option Bool) (rec : Int → Option Bool) : Int → Option Bool := fun i =>
  br (decide (i < (a.length : Int))) (
  chk (0 ≤ i ∧ i < (a.length : Int)) <|
  chk (0 ≤ i ∧ i < (b.length : Int)) <|
  br ((!((a.getD i.toNat default).toList == (b.getD i.toNat default).toList))) (
  some false) (
  rec (w64 (i + (1 : Int))))) (
  K_ ())
def base_Texts (N : Nat) (a : List ByteArray) (b : List ByteArray) : Option Bool :=
  br (((a.length : Int) != (b.length : Int))) (
  some false) (
  jn (τ := Unit) (fun (_ : Unit) =>
    some true) fun K_ =>
  rds (base_Texts.b1 N a b K_) N (0 : Int))

def ref06_SameAdmission.b1 (N : Nat) (Z0 : List TB) (Z7 : List TB) (K_ : Unit → Option Bool) (rec : Int → Option Bool) : Int → Option Bool := fun i =>
  br (decide (i < (Z0.length : Int))) (
  chk (0 ≤ i ∧ i < (Z0.length : Int)) <|
  chk (0 ≤ i ∧ i < (Z7.length : Int)) <|
  br (!((((Z0.getD i.toNat default).1).toList == ((Z7.getD i.toNat default).1).toList) && (((Z0.getD i.toNat default).2.1 == (Z7.getD i.toNat default).2.1) && (((Z0.getD i.toNat default).2.2.1 == (Z7.getD i.toNat default).2.2.1) && (((Z0.getD i.toNat default).2.2.2.1 == (Z7.getD i.toNat default).2.2.2.1) && (((Z0.getD i.toNat default).2.2.2.2.1 == (Z7.getD i.toNat default).2.2.2.2.1) && (((Z0.getD i.toNat default).2.2.2.2.2.1 == (Z7.getD i.toNat default).2.2.2.2.2.1) && (((Z0.getD i.toNat default).2.2.2.2.2.2.1 == (Z7.getD i.toNat default).2.2.2.2.2.2.1) && (((Z0.getD i.toNat default).2.2.2.2.2.2.2.1 == (Z7.getD i.toNat default).2.2.2.2.2.2.2.1) && ((Z0.getD i.toNat default).2.2.2.2.2.2.2.2 == (Z7.getD i.toNat default).2.2.2.2.2.2.2.2)))))))))) (
  some false) (
  rec (w64 (i + (1 : Int))))) (
  K_ ())
def ref06_SameAdmission (N : Nat) (Z0 : List TB) (Z5 : List ByteArray) (Z7 : List TB) (Zc : List ByteArray) : Option Bool :=
  br (((Z0.length : Int) != (Z7.length : Int))) (
  some false) (
  jn (τ := Unit) (fun (_ : Unit) =>
    bnd (base_Texts N Z5 Zc) fun x1 =>
    some x1) fun K_ =>
  rds (ref06_SameAdmission.b1 N Z0 Z7 K_) N (0 : Int))

def base_Ints.b1 (N : Nat) (a : List Int) (b : List Int) (K_ : Unit → Option Bool) (rec : Int → Option Bool) : Int → Option Bool := fun i =>
  br (decide (i < (a.length : Int))) (
  chk (0 ≤ i ∧ i < (a.length : Int)) <|
  chk (0 ≤ i ∧ i < (b.length : Int)) <|
  br (((a.getD i.toNat 0) != (b.getD i.toNat 0))) (
  some false) (
  rec (w64 (i + (1 : Int))))) (
  K_ ())
def base_Ints (N : Nat) (a : List Int) (b : List Int) : Option Bool :=
  br (((a.length : Int) != (b.length : Int))) (
  some false) (
  jn (τ := Unit) (fun (_ : Unit) =>
    some true) fun K_ =>
  rds (base_Ints.b1 N a b K_) N (0 : Int))

def base_Lists.b1 (N : Nat) (a : List (List Int)) (b : List (List Int)) (K_ : Unit → Option Bool) (rec : Int → Option Bool) : Int → Option Bool := fun i =>
  br (decide (i < (a.length : Int))) (
  chk (0 ≤ i ∧ i < (a.length : Int)) <|
  chk (0 ≤ i ∧ i < (b.length : Int)) <|
  bnd (base_Ints N (a.getD i.toNat default) (b.getD i.toNat default)) fun x1 =>
  br (!x1) (
  some false) (
  rec (w64 (i + (1 : Int))))) (
  K_ ())
def base_Lists (N : Nat) (a : List (List Int)) (b : List (List Int)) : Option Bool :=
  br (((a.length : Int) != (b.length : Int))) (
  some false) (
  jn (τ := Unit) (fun (_ : Unit) =>
    some true) fun K_ =>
  rds (base_Lists.b1 N a b K_) N (0 : Int))

def E9 (N : Nat) (Z1 : List (List Int)) (Z6 : List Int) (Z3 : List Int) (Z8 : List (List Int)) (Zd : List Int) (Za : List Int) : Option Bool :=
  bnd (base_Lists N Z1 Z8) fun x1 =>
  bnd (grd x1 false (base_Ints N Z6 Zd)) fun x2 =>
  bnd (grd (x1 && x2) false (base_Ints N Z3 Za)) fun x3 =>
  some ((x1 && x2) && x3)

def D3 (N : Nat) (Z2 : Int) (Z4 : List Int) (Z9 : Int) (Zb : List Int) : Option Bool :=
  bnd (grd (Z2 == Z9) false (base_Ints N Z4 Zb)) fun x1 =>
  some ((Z2 == Z9) && x1)

def law06_awake (N : Nat)  : Option Bool :=
  bnd (law06_Site N ) fun (x1, x11, x12, x13) =>
  bnd (law06_Voice N ) fun (x2, x21, x22, x23, x24, x25, x26, x27, x28) =>
  bnd (sched_NeedOf N x1 x11 x12 x13 x2 x21 x22 x23 x24 x25 x26 x27 x28) fun (x3, x31, x32, x33) =>
  bnd (law06_Site N ) fun (x4, x41, x42, x43) =>
  bnd (law06_Voice N ) fun (x5, x51, x52, x53, x54, x55, x56, x57, x58) =>
  bnd (law06_Alarm N ) fun (x6, x61, x62, x63, x64, x65, x66, x67, x68) =>
  bnd (sched_Admit N x4 x41 x42 x43 ([(x5, x51, x52, x53, x54, x55, x56, x57, x58)] : List TB) x6 x61 x62 x63 x64 x65 x66 x67 x68) fun (x7, x71, x72) =>
  bnd (law06_Site N ) fun (x8, x81, x82, x83) =>
  bnd (law06_Voice N ) fun (x9, x91, x92, x93, x94, x95, x96, x97, x98) =>
  bnd (law06_Best N ) fun (x10, x101, x102, x103, x104, x105, x106, x107, x108) =>
  bnd (sched_Run N x8 x81 x82 x83 ([(x9, x91, x92, x93, x94, x95, x96, x97, x98), (x10, x101, x102, x103, x104, x105, x106, x107, x108)] : List TB) ([(([(1 : Int), (3 : Int)] : List Int), ([(100 : Int), (1000 : Int)] : List Int))] : List (List Int × List Int))) fun (x111, x112, x113, x114) =>
  bnd (sched_SharesOf N (10 : Int) ([(2 : Int), (10 : Int), (10 : Int)] : List Int) ([(1 : Int), (1 : Int), (2 : Int)] : List Int)) fun (x121, x122, x123) =>
  bnd (sched_BestTurns N ([([(4 : Int), (1 : Int)] : List Int), ([(3 : Int), (3 : Int)] : List Int), ([(1 : Int), (4 : Int)] : List Int)] : List (List Int))) fun (x131, x132, x133) =>
  bnd (grd (((x33 == (0 : Int)) && ((x3 == (3 : Int)) && ((x31 == (1 : Int)) && (x32 == (60 : Int))))) && (x72 == (0 : Int))) default (law06_Alarm N )) fun (x14, x141, x142, x143, x144, x145, x146, x147, x148) =>
  bnd (grd (((x33 == (0 : Int)) && ((x3 == (3 : Int)) && ((x31 == (1 : Int)) && (x32 == (60 : Int))))) && (x72 == (0 : Int))) false (ref06_SameAdmission N x7 x71 ([(x14, x141, x142, x143, x144, x145, x146, x147, x148)] : List TB) ([(⟨#[118]⟩ : ByteArray)] : List ByteArray))) fun x15 =>
  bnd (grd (((((x33 == (0 : Int)) && ((x3 == (3 : Int)) && ((x31 == (1 : Int)) && (x32 == (60 : Int))))) && (x72 == (0 : Int))) && x15) && (x114 == (0 : Int))) false (E9 N x111 x112 x113 ([([(8 : Int), (2 : Int)] : List Int)] : List (List Int)) ([(80 : Int), (80 : Int)] : List Int) ([(20 : Int), (920 : Int)] : List Int))) fun x16 =>
  bnd (grd (((((((x33 == (0 : Int)) && ((x3 == (3 : Int)) && ((x31 == (1 : Int)) && (x32 == (60 : Int))))) && (x72 == (0 : Int))) && x15) && (x114 == (0 : Int))) && x16) && (x123 == (0 : Int))) false (D3 N x121 x122 (3 : Int) ([(6 : Int), (8 : Int), (16 : Int)] : List Int))) fun x17 =>
  bnd (grd ((((((((((x33 == (0 : Int)) && ((x3 == (3 : Int)) && ((x31 == (1 : Int)) && (x32 == (60 : Int))))) && (x72 == (0 : Int))) && x15) && (x114 == (0 : Int))) && x16) && (x123 == (0 : Int))) && x17) && (x133 == (0 : Int))) && (x132 == (4 : Int))) false (base_Ints N x131 ([(0 : Int), (0 : Int), (1 : Int)] : List Int))) fun x18 =>
  some (((((((((((x33 == (0 : Int)) && ((x3 == (3 : Int)) && ((x31 == (1 : Int)) && (x32 == (60 : Int))))) && (x72 == (0 : Int))) && x15) && (x114 == (0 : Int))) && x16) && (x123 == (0 : Int))) && x17) && (x133 == (0 : Int))) && (x132 == (4 : Int))) && x18)

def law06_Few.b1 (N : Nat) (l : List TB) (K_ : Unit → Option Bool) (rec : Int → Option Bool) : Int → Option Bool := fun i =>
  br (decide (i < (l.length : Int))) (
  chk (0 ≤ i ∧ i < (l.length : Int)) <|
  br (decide ((((l.getD i.toNat default).1).size : Int) > (20 : Int))) (
  some false) (
  rec (w64 (i + (1 : Int))))) (
  K_ ())
def law06_Few (N : Nat) (Zq : Int) (Zr : Int) (Zs : Int) (Zx : List Int) (l : List TB) : Option Bool :=
  br ((((decide ((Zx.length : Int) > (18 : Int))) || ((decide ((l.length : Int) > (6 : Int))) && (decide ((l.length : Int) < (8 : Int))))) || (decide ((l.length : Int) > (10 : Int))))) (
  some false) (
  jn (τ := Unit) (fun (_ : Unit) =>
    some true) fun K_ =>
  rds (law06_Few.b1 N l K_) N (0 : Int))

def q7 (N : Nat) (l : List Int) : Option (List Int) :=
  chk (([] : List Int).length + l.length ≤ 1000000000) <|
  some (([] : List Int) ++ l)

def ref06_Copy (N : Nat) (Zq : Int) (Zr : Int) (Zs : Int) (Zx : List Int) : Option (Int × Int × Int × List Int) :=
  bnd (q7 N Zx) fun x1 =>
  some (Zq, Zr, Zs, x1)

def w7 (N : Nat) (l : List TB) : Option (List TB) :=
  chk (l.length ≤ 1000000000) <|
  some l

def m7 (N : Nat) (n : Int) (lo : Int) (hi : Int) : Option Bool :=
  some ((decide (lo ≤ n)) && (decide (n ≤ hi)))

def ref06_SiteErr.b1 (N : Nat) (Zx : List Int) (K_ : Unit → Option Int) (rec : Int → Option Int) : Int → Option Int := fun i =>
  br (decide (i < (Zx.length : Int))) (
  chk (0 ≤ i ∧ i < (Zx.length : Int)) <|
  bnd (m7 N (Zx.getD i.toNat 0) (0 : Int) (1000 : Int)) fun x4 =>
  br (!x4) (
  some (2 : Int)) (
  chk ((decide (i > (0 : Int))) = true → 0 ≤ i ∧ i < (Zx.length : Int)) <|
  chk ((decide (i > (0 : Int))) = true → 0 ≤ w64 (i - (1 : Int)) ∧ w64 (i - (1 : Int)) < (Zx.length : Int)) <|
  br (((decide (i > (0 : Int))) && (decide ((Zx.getD i.toNat 0) < (Zx.getD ((w64 (i - (1 : Int))).toNat) 0))))) (
  some (9 : Int)) (
  rec (w64 (i + (1 : Int)))))) (
  K_ ())
def ref06_SiteErr (N : Nat) (Zq : Int) (Zr : Int) (Zs : Int) (Zx : List Int) : Option Int :=
  bnd (m7 N Zq (1 : Int) (20 : Int)) fun x1 =>
  bnd (grd x1 false (m7 N Zr (1 : Int) (8 : Int))) fun x2 =>
  bnd (grd (!((!x1) || (!x2))) false (m7 N Zs (0 : Int) (100000 : Int))) fun x3 =>
  br ((((!x1) || (!x2)) || (!x3))) (
  some (2 : Int)) (
  br (((Zx.length : Int) == (0 : Int))) (
  some (10 : Int)) (
  br (decide ((Zx.length : Int) > (16 : Int))) (
  some (8 : Int)) (
  jn (τ := Unit) (fun (_ : Unit) =>
    some (0 : Int)) fun K_ =>
  rds (ref06_SiteErr.b1 N Zx K_) N (0 : Int))))

def base_IsName.b1 (N : Nat) (s : ByteArray) (K_ : Unit → Option Bool) (rec : Int → Option Bool) : Int → Option Bool := fun i =>
  br (decide (i < (s.size : Int))) (
  chk (0 ≤ i ∧ i < (s.size : Int)) <|
  br (((!(((decide ((s.data.getD i.toNat 0).toNat ≥ (97 : Int))) && (decide ((s.data.getD i.toNat 0).toNat ≤ (122 : Int)))) || ((decide ((s.data.getD i.toNat 0).toNat ≥ (65 : Int))) && (decide ((s.data.getD i.toNat 0).toNat ≤ (90 : Int)))))) && ((i == (0 : Int)) || (((s.data.getD i.toNat 0).toNat != (45 : Int)) && ((decide ((s.data.getD i.toNat 0).toNat < (48 : Int))) || (decide ((s.data.getD i.toNat 0).toNat > (57 : Int)))))))) (
  some false) (
  rec (w64 (i + (1 : Int))))) (
  K_ ())
def base_IsName (N : Nat) (s : ByteArray) : Option Bool :=
  br (((decide ((s.size : Int) < (1 : Int))) || (decide ((s.size : Int) > (12 : Int))))) (
  some false) (
  jn (τ := Unit) (fun (_ : Unit) =>
    some true) fun K_ =>
  rds (base_IsName.b1 N s K_) N (0 : Int))

def v7 (N : Nat) (Zq : Int) (Zr : Int) (Zs : Int) (Zx : List Int) (report : Int) : Option Bool :=
  bnd (m7 N report (0 : Int) (w64 ((Zx.length : Int) - (1 : Int)))) fun x1 =>
  some x1

def B4 (N : Nat) (Zq : Int) (Zr : Int) (Zs : Int) (Zx : List Int) (Z1e : ByteArray) (Z1c : Int) (Z1h : Int) (Z1j : Int) (Z1g : Int) (Z1d : Int) (Z19 : Int) (Z1i : Int) (Z1a : Int) : Option Int :=
  bnd (base_IsName N Z1e) fun x1 =>
  br (!x1) (
  some (4 : Int)) (
  bnd (m7 N Z1c (0 : Int) (2 : Int)) fun x2 =>
  br (!x2) (
  some (15 : Int)) (
  bnd (m7 N Z1h (0 : Int) (100 : Int)) fun x3 =>
  bnd (grd x3 false (m7 N Z1j (1 : Int) (100 : Int))) fun x4 =>
  bnd (grd (!((!x3) || (!x4))) false (m7 N Z1g (0 : Int) (100000 : Int))) fun x5 =>
  br ((((!x3) || (!x4)) || (!x5))) (
  some (2 : Int)) (
  br ((Z1c == (0 : Int))) (
  br (((((Z1d != (0 : Int)) || (Z19 != (0 : Int))) || (Z1i != (0 : Int))) || (Z1a != (0 : Int)))) (
  some (3 : Int)) (
  some (0 : Int))) (
  bnd (v7 N Zq Zr Zs Zx Z1d) fun x6 =>
  bnd (grd x6 false (m7 N Z19 (1 : Int) (1000000 : Int))) fun x7 =>
  bnd (grd (!((!x6) || (!x7))) false (m7 N Z1i (0 : Int) (1000000 : Int))) fun x8 =>
  bnd (grd (!(((!x6) || (!x7)) || (!x8))) false (m7 N Z1a (1 : Int) (1000 : Int))) fun x9 =>
  br (((((!x6) || (!x7)) || (!x8)) || (!x9))) (
  some (2 : Int)) (
  chk (0 ≤ Z1d ∧ Z1d < (Zx.length : Int)) <|
  br (((Zx.getD Z1d.toNat 0) == (0 : Int))) (
  some (11 : Int)) (
  some (0 : Int)))))))

def ref06_find.b1 (N : Nat) (l : List TB) (name : ByteArray) (K_ : Unit → Option Int) (rec : Int → Option Int) : Int → Option Int := fun i =>
  br (decide (i < (l.length : Int))) (
  chk (0 ≤ i ∧ i < (l.length : Int)) <|
  br ((((l.getD i.toNat default).1).toList == name.toList)) (
  some i) (
  rec (w64 (i + (1 : Int))))) (
  K_ ())
def ref06_find (N : Nat) (l : List TB) (name : ByteArray) : Option Int :=
  jn (τ := Unit) (fun (_ : Unit) =>
    some (-1 : Int)) fun K_ =>
  rds (ref06_find.b1 N l name K_) N (0 : Int)

def base_Floor (N : Nat) (n : Int) (by_ : Int) : Option Int :=
  chk (by_ ≠ 0) <|
  chk (by_ ≠ 0) <|
  br (decide (n.tmod by_ < (0 : Int))) (
  some (w64 ((w64 (n.tdiv by_)) - (1 : Int)))) (
  some (w64 (n.tdiv by_)))

def base_Ceil (N : Nat) (n : Int) (by_ : Int) : Option Int :=
  bnd (base_Floor N (w64 (0 - n)) by_) fun x1 =>
  some (w64 (0 - x1))

def ref06_NeedOf (N : Nat) (Zq : Int) (Zr : Int) (Zs : Int) (Zx : List Int) (Z1e : ByteArray) (Z1c : Int) (Z1h : Int) (Z1j : Int) (Z1g : Int) (Z1d : Int) (Z19 : Int) (Z1i : Int) (Z1a : Int) : Option (Int × Int × Int) :=
  br ((Z1c == (0 : Int))) (
  some ((0 : Int), (0 : Int), (0 : Int))) (
  bnd (base_Ceil N Z19 Z1a) fun x1 =>
  chk (0 ≤ Z1d ∧ Z1d < (Zx.length : Int)) <|
  bnd (base_Ceil N (if Z1i < x1 then x1 else Z1i) (Zx.getD Z1d.toNat 0)) fun x2 =>
  some (x2, (1 : Int), w64 (x2 * Z1g)))

def ref06_needs.b1 (N : Nat) (Zq : Int) (Zr : Int) (Zs : Int) (Zx : List Int) (l : List TB) (K_ : Int × Int × Int → Option (Int × Int × Int)) (rec : Int × Int × Int × Int → Option (Int × Int × Int)) : Int × Int × Int × Int → Option (Int × Int × Int) := fun (i, b23, b24, b25) =>
  br (decide (i < (l.length : Int))) (
  chk (0 ≤ i ∧ i < (l.length : Int)) <|
  bnd (ref06_NeedOf N Zq Zr Zs Zx ((l.getD i.toNat default).1) ((l.getD i.toNat default).2.1) ((l.getD i.toNat default).2.2.1) ((l.getD i.toNat default).2.2.2.1) ((l.getD i.toNat default).2.2.2.2.1) ((l.getD i.toNat default).2.2.2.2.2.1) ((l.getD i.toNat default).2.2.2.2.2.2.1) ((l.getD i.toNat default).2.2.2.2.2.2.2.1) ((l.getD i.toNat default).2.2.2.2.2.2.2.2)) fun (x1, x11, x12) =>
  rec (w64 (i + (1 : Int)), w64 (b23 + x1), w64 (b24 + x11), w64 (b25 + x12))) (
  K_ (b23, b24, b25))
def ref06_needs (N : Nat) (Zq : Int) (Zr : Int) (Zs : Int) (Zx : List Int) (l : List TB) : Option (Int × Int × Int) :=
  jn (τ := Int × Int × Int) (fun (b2, b21, b22) =>
    some (b2, b21, b22)) fun K_ =>
  rds (ref06_needs.b1 N Zq Zr Zs Zx l K_) N ((0 : Int), (0 : Int), (0 : Int), (0 : Int))

def ref06_Fit (N : Nat) (Zq : Int) (Zr : Int) (Zs : Int) (Zx : List Int) (l : List TB) : Option Bool :=
  bnd (ref06_needs N Zq Zr Zs Zx l) fun (x1, x11, x12) =>
  some (((decide (x1 ≤ Zq)) && (decide (x11 ≤ Zr))) && (decide (x12 ≤ Zs)))

def ref06_CheckBearers.b1 (N : Nat) (Zq : Int) (Zr : Int) (Zs : Int) (Zx : List Int) (l : List TB) (K_ : Unit → Option (Int × Int)) (rec : Int → Option (Int × Int)) : Int → Option (Int × Int) := fun i =>
  br (decide (i < (l.length : Int))) (
  chk (0 ≤ i ∧ i < (l.length : Int)) <|
  bnd (B4 N Zq Zr Zs Zx ((l.getD i.toNat default).1) ((l.getD i.toNat default).2.1) ((l.getD i.toNat default).2.2.1) ((l.getD i.toNat default).2.2.2.1) ((l.getD i.toNat default).2.2.2.2.1) ((l.getD i.toNat default).2.2.2.2.2.1) ((l.getD i.toNat default).2.2.2.2.2.2.1) ((l.getD i.toNat default).2.2.2.2.2.2.2.1) ((l.getD i.toNat default).2.2.2.2.2.2.2.2)) fun x1 =>
  br ((x1 != (0 : Int))) (
  some (i, x1)) (
  chk (0 ≤ (0 : Int) ∧ (0 : Int) ≤ i ∧ i ≤ (l.length : Int)) <|
  chk (0 ≤ i ∧ i < (l.length : Int)) <|
  bnd (ref06_find N (l.take i.toNat) ((l.getD i.toNat default).1)) fun x2 =>
  br (decide (x2 ≥ (0 : Int))) (
  some (i, (5 : Int))) (
  rec (w64 (i + (1 : Int)))))) (
  K_ ())
def ref06_CheckBearers (N : Nat) (Zq : Int) (Zr : Int) (Zs : Int) (Zx : List Int) (l : List TB) : Option (Int × Int) :=
  br (decide ((l.length : Int) > (8 : Int))) (
  some ((0 : Int), (8 : Int))) (
  jn (τ := Unit) (fun (_ : Unit) =>
    bnd (ref06_Fit N Zq Zr Zs Zx l) fun x3 =>
    br (!x3) (
    some ((0 : Int), (16 : Int))) (
    some ((0 : Int), (0 : Int)))) fun K_ =>
  rds (ref06_CheckBearers.b1 N Zq Zr Zs Zx l K_) N (0 : Int))

def F0 (N : Nat) (Zq : Int) (Zr : Int) (Zs : Int) (Zx : List Int) (l : List TB) : Option Int :=
  bnd (ref06_SiteErr N Zq Zr Zs Zx) fun x1 =>
  br ((x1 != (0 : Int))) (
  some x1) (
  bnd (ref06_CheckBearers N Zq Zr Zs Zx l) fun (x2, x21) =>
  some x21)

def law06_brief.b1 (N : Nat) (l : List (List Int × List Int)) (K_ : Unit → Option Bool) (rec : Int → Option Bool) : Int → Option Bool := fun i =>
  br (decide (i < (l.length : Int))) (
  chk (0 ≤ i ∧ i < (l.length : Int)) <|
  chk ((!(decide ((((l.getD i.toNat default).1).length : Int) > (12 : Int)))) = true → 0 ≤ i ∧ i < (l.length : Int)) <|
  br (((decide ((((l.getD i.toNat default).1).length : Int) > (12 : Int))) || (decide ((((l.getD i.toNat default).2).length : Int) > (12 : Int))))) (
  some false) (
  rec (w64 (i + (1 : Int))))) (
  K_ ())
def law06_brief (N : Nat) (l : List (List Int × List Int)) : Option Bool :=
  br ((((decide ((l.length : Int) > (12 : Int))) && (decide ((l.length : Int) ≤ (60 : Int)))) || (decide ((l.length : Int) > (62 : Int))))) (
  some false) (
  jn (τ := Unit) (fun (_ : Unit) =>
    some true) fun K_ =>
  rds (law06_brief.b1 N l K_) N (0 : Int))

def w6 (N : Nat) (Zq : Int) (Zr : Int) (Zs : Int) (Zx : List Int) (bearers : Int) (l : List (List Int × List Int)) (i : Int) (K_1 : Unit → Option Int) (rec1 : Int → Option Int) : Int → Option Int := fun k =>
  br (decide (k < bearers)) (
  chk (0 ≤ i ∧ i < (l.length : Int)) <|
  chk (0 ≤ k ∧ k < (((l.getD i.toNat default).1).length : Int)) <|
  bnd (v7 N Zq Zr Zs Zx (((l.getD i.toNat default).1).getD k.toNat 0)) fun x1 =>
  chk (x1 = true → 0 ≤ i ∧ i < (l.length : Int)) <|
  chk (x1 = true → 0 ≤ k ∧ k < (((l.getD i.toNat default).2).length : Int)) <|
  bnd (grd x1 false (m7 N (((l.getD i.toNat default).2).getD k.toNat 0) (0 : Int) (1000000 : Int))) fun x2 =>
  br (((!x1) || (!x2))) (
  some (2 : Int)) (
  rec1 (w64 (k + (1 : Int))))) (
  K_1 ())
def ref06_SlotsErr.b1 (N : Nat) (Zq : Int) (Zr : Int) (Zs : Int) (Zx : List Int) (bearers : Int) (l : List (List Int × List Int)) (K_ : Unit → Option Int) (rec : Int → Option Int) : Int → Option Int := fun i =>
  br (decide (i < (l.length : Int))) (
  jn (τ := Unit) (fun (_ : Unit) =>
    rec (w64 (i + (1 : Int)))) fun K_1 =>
  chk (0 ≤ i ∧ i < (l.length : Int)) <|
  chk ((!((((l.getD i.toNat default).1).length : Int) != bearers)) = true → 0 ≤ i ∧ i < (l.length : Int)) <|
  br ((((((l.getD i.toNat default).1).length : Int) != bearers) || ((((l.getD i.toNat default).2).length : Int) != bearers))) (
  some (10 : Int)) (
  rds (w6 N Zq Zr Zs Zx bearers l i K_1) N (0 : Int))) (
  K_ ())
def ref06_SlotsErr (N : Nat) (Zq : Int) (Zr : Int) (Zs : Int) (Zx : List Int) (bearers : Int) (l : List (List Int × List Int)) : Option Int :=
  br (decide ((l.length : Int) > (60 : Int))) (
  some (8 : Int)) (
  jn (τ := Unit) (fun (_ : Unit) =>
    some (0 : Int)) fun K_ =>
  rds (ref06_SlotsErr.b1 N Zq Zr Zs Zx bearers l K_) N (0 : Int))

def law06_runErr (N : Nat) (Zq : Int) (Zr : Int) (Zs : Int) (Zx : List Int) (l : List TB) (slots : List (List Int × List Int)) : Option Int :=
  bnd (F0 N Zq Zr Zs Zx l) fun x1 =>
  br ((x1 != (0 : Int))) (
  some x1) (
  bnd (ref06_SlotsErr N Zq Zr Zs Zx (l.length : Int) slots) fun x2 =>
  some x2)

def ref06_CopySlots.b1 (N : Nat) (l : List (List Int × List Int)) (K_ : (List (List Int × List Int)) → Option (List (List Int × List Int))) (rec : Int × (List (List Int × List Int)) → Option (List (List Int × List Int))) : Int × (List (List Int × List Int)) → Option (List (List Int × List Int)) := fun (i, b01) =>
  br (decide (i < (l.length : Int))) (
  chk (0 ≤ i ∧ i < (l.length : Int)) <|
  bnd (q7 N ((l.getD i.toNat default).1)) fun x1 =>
  chk (0 ≤ i ∧ i < (l.length : Int)) <|
  bnd (q7 N ((l.getD i.toNat default).2)) fun x2 =>
  chk (b01.length + ([(x1, x2)] : List (List Int × List Int)).length ≤ 1000000000) <|
  rec (w64 (i + (1 : Int)), (b01 ++ ([(x1, x2)] : List (List Int × List Int))))) (
  K_ b01)
def ref06_CopySlots (N : Nat) (l : List (List Int × List Int)) : Option (List (List Int × List Int)) :=
  jn (τ := (List (List Int × List Int))) (fun (b0 : (List (List Int × List Int))) =>
    some b0) fun K_ =>
  rds (ref06_CopySlots.b1 N l K_) N ((0 : Int), ([] : List (List Int × List Int)))

def v6 (N : Nat) (n : Int) : Option Bool :=
  bnd (j3 N n (0 : Int) (1000000 : Int)) fun x1 =>
  some (!x1)

def B3 (N : Nat) (Z1i : Int) (arrivals : List Int) (t43 : Int) (K_1 : Unit → Option (Int × Int × Int)) (rec1 : Int × Int × Int → Option (Int × Int × Int)) : Int × Int × Int → Option (Int × Int × Int) := fun (sum, most, t52) =>
  br (decide (t52 < (((arrivals.drop t43.toNat).take (arrivals.length - t43.toNat)).length : Int))) (
  chk (0 ≤ t52 ∧ t52 < (((arrivals.drop t43.toNat).take (arrivals.length - t43.toNat)).length : Int)) <|
  br (decide (w64 (sum + (((arrivals.drop t43.toNat).take (arrivals.length - t43.toNat)).getD t52.toNat 0)) > most)) (
  some (t43, w64 (t43 + t52), (0 : Int))) (
  rec1 (w64 (sum + (((arrivals.drop t43.toNat).take (arrivals.length - t43.toNat)).getD t52.toNat 0)), w64 (most + Z1i), w64 (t52 + (1 : Int))))) (
  K_1 ())
def sched_Breaks.b1 (N : Nat) (Z19 : Int) (Z1i : Int) (arrivals : List Int) (K_ : Unit → Option (Int × Int × Int)) (rec : Int → Option (Int × Int × Int)) : Int → Option (Int × Int × Int) := fun t43 =>
  br (decide (t43 < (arrivals.length : Int))) (
  jn (τ := Unit) (fun (_ : Unit) =>
    rec (w64 (t43 + (1 : Int)))) fun K_1 =>
  chk (0 ≤ t43 ∧ t43 ≤ (arrivals.length : Int) ∧ (arrivals.length : Int) ≤ (arrivals.length : Int)) <|
  rds (B3 N Z1i arrivals t43 K_1) N ((0 : Int), Z19, (0 : Int))) (
  K_ ())
def sched_Breaks (N : Nat) (Zq : Int) (Zr : Int) (Zs : Int) (Zx : List Int) (Z1e : ByteArray) (Z1c : Int) (Z1h : Int) (Z1j : Int) (Z1g : Int) (Z1d : Int) (Z19 : Int) (Z1i : Int) (Z1a : Int) (arrivals : List Int) : Option (Int × Int × Int) :=
  bnd (q3 N Zq Zr Zs Zx Z1e Z1c Z1h Z1j Z1g Z1d Z19 Z1i Z1a) fun (x1, x11, x12, x13, x14) =>
  bnd (l3 N arrivals (fun y0 => v6 N y0)) fun x2 =>
  bnd (l9 N Z1e Z1c Z1h Z1j Z1g Z1d Z19 Z1i Z1a) fun x3 =>
  bnd (i5 N x3 (15 : Int)) fun x4 =>
  bnd (i5 N (decide ((arrivals.length : Int) ≤ (60 : Int))) (8 : Int)) fun x5 =>
  bnd (i5 N (!x2) (2 : Int)) fun x6 =>
  bnd (sched_first N ([x14, x4, x5, x6] : List Int)) fun x7 =>
  br ((x7 != (0 : Int))) (
  some ((0 : Int), (0 : Int), x7)) (
  jn (τ := Unit) (fun (_ : Unit) =>
    some ((0 : Int), (0 : Int), (12 : Int))) fun K_ =>
  rds (sched_Breaks.b1 N Z19 Z1i arrivals K_) N (0 : Int))

def sched_FirstLate.b1 (N : Nat) (slots : List (List Int × List Int)) (K_ : Unit → Option (Int × Int × Int)) (rec : Unit → Option (Int × Int × Int)) : Unit → Option (Int × Int × Int) := fun _ =>
  br (decide ((0 : Int) < (slots.length : Int))) (
  none) (
  K_ ())
def t2 (N : Nat) (slots : List (List Int × List Int)) (b7 : List TU) (t29 : Int) (b76 : List TU) (t42 : Int) (K_10 : Int → Option (Int × Int × Int)) (rec9 : Int × Int → Option (Int × Int × Int)) : Int × Int → Option (Int × Int × Int) := fun (due1, k) =>
  chk (t42.toNat < b7.length) <|
  br (decide (k ≤ w64 ((w64 (t29 + (1 : Int))) - ((b76.getD t42.toNat default).2.2.2.2.2.2.2.2.1)))) (
  chk (0 ≤ k ∧ k < (slots.length : Int)) <|
  chk (0 ≤ t42 ∧ t42 < (((slots.getD k.toNat default).2).length : Int)) <|
  rec9 (w64 (due1 + (((slots.getD k.toNat default).2).getD t42.toNat 0)), w64 (k + (1 : Int)))) (
  K_10 due1)
def p9 (N : Nat) (slots : List (List Int × List Int)) (b7 : List TU) (t29 : Int) (K_3 : (List TU) → Option (Int × Int × Int)) (b76 : List TU) (rec8 : Int → Option (Int × Int × Int)) : Int → Option (Int × Int × Int) := fun t42 =>
  br (decide (t42 < (b7.length : Int))) (
  jn (τ := Unit) (fun (_ : Unit) =>
    rec8 (w64 (t42 + (1 : Int)))) fun K_9 =>
  chk (0 ≤ t42 ∧ t42 < (b7.length : Int)) <|
  bnd (l9 N ((b76.getD t42.toNat default).1) ((b76.getD t42.toNat default).2.1) ((b76.getD t42.toNat default).2.2.1) ((b76.getD t42.toNat default).2.2.2.1) ((b76.getD t42.toNat default).2.2.2.2.1) ((b76.getD t42.toNat default).2.2.2.2.2.1) ((b76.getD t42.toNat default).2.2.2.2.2.2.1) ((b76.getD t42.toNat default).2.2.2.2.2.2.2.1) ((b76.getD t42.toNat default).2.2.2.2.2.2.2.2.1)) fun x19 =>
  br (!x19) (
  K_9 ()) (
  jn (τ := Int) (fun (due : Int) =>
    chk (t42.toNat < b7.length) <|
    br (decide ((b76.getD t42.toNat default).2.2.2.2.2.2.2.2.2.2.2.1 < due)) (
    some (t29, t42, (0 : Int))) (
    K_9 ())) fun K_10 =>
  rds (t2 N slots b7 t29 b76 t42 K_10) N ((0 : Int), (0 : Int)))) (
  K_3 b76)
def t6 (N : Nat) (slots : List (List Int × List Int)) (x1 : Int) (x11 : Int) (x12 : Int) (x13 : List Int) (b7 : List TU) (K_2 : (List TU) → Option (Int × Int × Int)) (rec2 : Int × (List TU) → Option (Int × Int × Int)) : Int × (List TU) → Option (Int × Int × Int) := fun (t29, b74) =>
  br (decide (t29 < (slots.length : Int))) (
  jn (τ := (List TU)) (fun (b75 : (List TU)) =>
    rec2 (w64 (t29 + (1 : Int)), b75)) fun K_3 =>
  chk (0 ≤ t29 ∧ t29 < (slots.length : Int)) <|
  bnd (r8 N slots x1 x11 x12 x13 b7 t29 b74) fun (l1, b76) =>
  rds (p9 N slots b7 t29 K_3 b76) N (0 : Int)) (
  K_2 b74)
def sched_FirstLate (N : Nat) (Zq : Int) (Zr : Int) (Zs : Int) (Zx : List Int) (l : List TB) (slots : List (List Int × List Int)) : Option (Int × Int × Int) :=
  bnd (t5 N Zq Zr Zs Zx l) fun (x1, x11, x12, x13, x14) =>
  br ((x14 != (0 : Int))) (
  br ((x14 != (0 : Int))) (
  some ((0 : Int), (0 : Int), x14)) (
  jn (τ := Unit) (fun (_ : Unit) =>
    some ((0 : Int), (0 : Int), (12 : Int))) fun K_ =>
  rds (sched_FirstLate.b1 N slots K_) N ())) (
  bnd (B2 N l x1 x11 x12 x13) fun b7 =>
  bnd (sched_site_slotsErr N x1 x11 x12 x13 (l.length : Int) slots) fun x4 =>
  br ((x4 != (0 : Int))) (
  some ((0 : Int), (0 : Int), x4)) (
  jn (τ := (List TU)) (fun (b73 : (List TU)) =>
    some ((0 : Int), (0 : Int), (12 : Int))) fun K_2 =>
  rds (t6 N slots x1 x11 x12 x13 b7 K_2) N ((0 : Int), b7)))

def u5 (N : Nat) (l : List TB) (slots : List (List Int × List Int)) (k : Int) (K_2 : List Int → Option Bool) (rec1 : Int × List Int → Option Bool) : Int × List Int → Option Bool := fun (t, b11) =>
  br (decide (t < (slots.length : Int))) (
  chk (0 ≤ t ∧ t < (slots.length : Int)) <|
  chk (0 ≤ k ∧ k < (((slots.getD t.toNat default).1).length : Int)) <|
  chk (0 ≤ k ∧ k < (l.length : Int)) <|
  br (decide ((((slots.getD t.toNat default).1).getD k.toNat 0) < (l.getD k.toNat default).2.2.2.2.2.1)) (
  some true) (
  chk (0 ≤ t ∧ t < (slots.length : Int)) <|
  chk (0 ≤ k ∧ k < (((slots.getD t.toNat default).2).length : Int)) <|
  chk (b11.length + ([(((slots.getD t.toNat default).2).getD k.toNat 0)] : List Int).length ≤ 1000000000) <|
  rec1 (w64 (t + (1 : Int)), (b11 ++ ([(((slots.getD t.toNat default).2).getD k.toNat 0)] : List Int))))) (
  K_2 b11)
def law06_SchedKept.b1 (N : Nat) (Zq : Int) (Zr : Int) (Zs : Int) (Zx : List Int) (l : List TB) (slots : List (List Int × List Int)) (K_ : Unit → Option Bool) (rec : Int → Option Bool) : Int → Option Bool := fun k =>
  br (decide (k < (l.length : Int))) (
  jn (τ := Unit) (fun (_ : Unit) =>
    rec (w64 (k + (1 : Int)))) fun K_1 =>
  chk (0 ≤ k ∧ k < (l.length : Int)) <|
  br (((l.getD k.toNat default).2.1 == (0 : Int))) (
  K_1 ()) (
  jn (τ := List Int) (fun (b1 : List Int) =>
    bnd (ref06_Copy N Zq Zr Zs Zx) fun (x5, x51, x52, x53) =>
    chk (0 ≤ k ∧ k < (l.length : Int)) <|
    bnd (sched_Breaks N x5 x51 x52 x53 ((l.getD k.toNat default).1) ((l.getD k.toNat default).2.1) ((l.getD k.toNat default).2.2.1) ((l.getD k.toNat default).2.2.2.1) ((l.getD k.toNat default).2.2.2.2.1) ((l.getD k.toNat default).2.2.2.2.2.1) ((l.getD k.toNat default).2.2.2.2.2.2.1) ((l.getD k.toNat default).2.2.2.2.2.2.2.1) ((l.getD k.toNat default).2.2.2.2.2.2.2.2) b1) fun (x6, x61, x62) =>
    br ((x62 != (12 : Int))) (
    some (x62 == (0 : Int))) (
    K_1 ())) fun K_2 =>
  rds (u5 N l slots k K_2) N ((0 : Int), ([] : List Int)))) (
  K_ ())
def law06_SchedKept (N : Nat) (Zq : Int) (Zr : Int) (Zs : Int) (Zx : List Int) (l : List TB) (slots : List (List Int × List Int)) : Option Bool :=
  bnd (law06_awake N ) fun x1 =>
  br (!x1) (
  some false) (
  bnd (law06_Few N Zq Zr Zs Zx l) fun x2 =>
  bnd (grd (!((!x2) || (decide ((slots.length : Int) > (12 : Int))))) false (law06_brief N slots)) fun x3 =>
  bnd (grd (!(((!x2) || (decide ((slots.length : Int) > (12 : Int)))) || (!x3))) 0 (law06_runErr N Zq Zr Zs Zx l slots)) fun x4 =>
  br (((((!x2) || (decide ((slots.length : Int) > (12 : Int)))) || (!x3)) || (x4 != (0 : Int)))) (
  some true) (
  jn (τ := Unit) (fun (_ : Unit) =>
    bnd (ref06_Copy N Zq Zr Zs Zx) fun (x7, x71, x72, x73) =>
    bnd (w7 N l) fun x8 =>
    bnd (ref06_CopySlots N slots) fun x9 =>
    bnd (sched_FirstLate N x7 x71 x72 x73 x8 x9) fun (x10, x101, x102) =>
    some ((x102 == (12 : Int)) && ((x10 == (0 : Int)) && (x101 == (0 : Int))))) fun K_ =>
  rds (law06_SchedKept.b1 N Zq Zr Zs Zx l slots K_) N (0 : Int)))

end
end Go.Sh
