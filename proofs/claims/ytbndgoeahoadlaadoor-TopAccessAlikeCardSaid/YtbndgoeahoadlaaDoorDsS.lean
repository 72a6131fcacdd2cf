import Derived.Test.YtbndgoeahoadlaaDoorDsH
import Derived.Test.YtbndgoeahoadlaaDoorPwG5
set_option linter.all false
namespace Go.Sh
open Go.PW
noncomputable section
def base_Within (N : Nat) (n : Int) (lo : Int) (hi : Int) : Option Bool :=
  some ((decide (lo ≤ n)) && (decide (n ≤ hi)))

def ref07_CheckPaging (N : Nat) (Z2 : Int) (Z3 : Int) (Z4 : Int) (Z5 : Int) : Option Int :=
  bnd (base_Within N Z2 (1 : Int) (256 : Int)) fun x1 =>
  br (!x1) (
  some (2 : Int)) (
  chk (Z2 ≠ 0) <|
  br (((256 : Int).tmod Z2 != (0 : Int))) (
  some (3 : Int)) (
  bnd (base_Within N Z3 (1 : Int) Z2) fun x2 =>
  br (!x2) (
  some (2 : Int)) (
  chk (Z3 ≠ 0) <|
  br ((Z2.tmod Z3 != (0 : Int))) (
  some (3 : Int)) (
  br ((((Z4 != (1 : Int)) && (Z4 != (2 : Int))) && (Z4 != (4 : Int)))) (
  some (15 : Int)) (
  bnd (base_Within N Z5 (0 : Int) (w64 (Z2 - (1 : Int)))) fun x3 =>
  br (!x3) (
  some (2 : Int)) (
  some (0 : Int)))))))

def ref07_NumberErr (N : Nat) (phone : Int) : Option Int :=
  bnd (base_Within N phone (0 : Int) (1000000 : Int)) fun x1 =>
  br (!x1) (
  some (2 : Int)) (
  some (0 : Int))

def ref07_PowersErr (N : Nat) (Zj : Int) (Zi : Int) (Zm : Int) : Option Int :=
  bnd (base_Within N Zj (0 : Int) (1000 : Int)) fun x1 =>
  bnd (grd x1 false (base_Within N Zi (0 : Int) (1000 : Int))) fun x2 =>
  bnd (grd (!((!x1) || (!x2))) false (base_Within N Zm (0 : Int) (1000 : Int))) fun x3 =>
  br ((((!x1) || (!x2)) || (!x3))) (
  some (2 : Int)) (
  some (0 : Int))

def access_within (N : Nat) (n : Int) (lo : Int) (hi : Int) : Option Bool :=
  some ((decide (lo ≤ n)) && (decide (n ≤ hi)))

def access_unless (N : Nat) (is_ : Bool) (e : Int) : Option Int :=
  br (is_) (
  some (0 : Int)) (
  some e)

def access_first.b1 (N : Nat) (l : List Int) (K_ : Unit → Option Int) (rec : Int → Option Int) : Int → Option Int := fun t7 =>
  br (decide (t7 < (l.length : Int))) (
  chk (0 ≤ t7 ∧ t7 < (l.length : Int)) <|
  br (((l.getD t7.toNat 0) != (0 : Int))) (
  some (l.getD t7.toNat 0)) (
  rec (w64 (t7 + (1 : Int))))) (
  K_ ())
def access_first (N : Nat) (l : List Int) : Option Int :=
  jn (τ := Unit) (fun (_ : Unit) =>
    some (0 : Int)) fun K_ =>
  rds (access_first.b1 N l K_) N (0 : Int)

def access_places (N : Nat) (occasions : Int) : Option (List Int) :=
  br ((occasions == (1 : Int))) (
  chk (0 < ([(9 : Int)] : List Int).length) <|
  some ([(9 : Int)] : List Int)) (
  br ((occasions == (2 : Int))) (
  chk (0 < ([(4 : Int), (9 : Int)] : List Int).length) <|
  some ([(4 : Int), (9 : Int)] : List Int)) (
  br ((occasions == (4 : Int))) (
  chk (0 < ([(0 : Int), (4 : Int), (5 : Int), (9 : Int)] : List Int).length) <|
  some ([(0 : Int), (4 : Int), (5 : Int), (9 : Int)] : List Int)) (
  some ([] : List Int))))

def access_CheckPaging (N : Nat) (Z2 : Int) (Z3 : Int) (Z4 : Int) (Z5 : Int) : Option Int :=
  bnd (access_within N Z2 (1 : Int) (256 : Int)) fun x1 =>
  bnd (access_unless N x1 (2 : Int)) fun x2 =>
  bnd (access_unless N (andI Z2 (w64 (Z2 - (1 : Int))) == (0 : Int)) (3 : Int)) fun x3 =>
  bnd (access_within N Z3 (1 : Int) Z2) fun x4 =>
  bnd (access_unless N x4 (2 : Int)) fun x5 =>
  bnd (access_first N ([x2, x3, x5] : List Int)) fun x6 =>
  br ((x6 != (0 : Int))) (
  some x6) (
  chk (Z3 ≠ 0) <|
  bnd (access_unless N (Z2.tmod Z3 == (0 : Int)) (3 : Int)) fun x7 =>
  bnd (access_places N Z4) fun x8 =>
  bnd (access_unless N (!(x8.isEmpty)) (15 : Int)) fun x9 =>
  bnd (access_within N Z5 (0 : Int) (w64 (Z2 - (1 : Int)))) fun x10 =>
  bnd (access_unless N x10 (2 : Int)) fun x11 =>
  bnd (access_first N ([x7, x9, x11] : List Int)) fun x12 =>
  some x12)

def access_pagingErr.b1 (N : Nat) (phones : List Int) (K_ : Int → Option Int) (rec : Int × Int → Option Int) : Int × Int → Option Int := fun (e1, t12) =>
  br (decide (t12 < (phones.length : Int))) (
  chk (0 ≤ t12 ∧ t12 < (phones.length : Int)) <|
  bnd (access_within N (phones.getD t12.toNat 0) (0 : Int) (1000000 : Int)) fun x2 =>
  bnd (access_unless N x2 (2 : Int)) fun x3 =>
  bnd (access_first N ([e1, x3] : List Int)) fun x4 =>
  rec (x4, w64 (t12 + (1 : Int)))) (
  K_ e1)
def access_pagingErr (N : Nat) (Z2 : Int) (Z3 : Int) (Z4 : Int) (Z5 : Int) (phones : List Int) : Option Int :=
  bnd (access_CheckPaging N Z2 Z3 Z4 Z5) fun x1 =>
  jn (τ := Int) (fun (e : Int) =>
    some e) fun K_ =>
  rds (access_pagingErr.b1 N phones K_) N (x1, (0 : Int))

def access_occasion (N : Nat) (Z2 : Int) (Z3 : Int) (Z4 : Int) (Z5 : Int) (phone : Int) : Option (Int × Int) :=
  bnd (access_places N Z4) fun x1 =>
  chk (Z3 ≠ 0) <|
  chk (Z3 ≠ 0) <|
  chk (Z2 ≠ 0) <|
  chk (Z3 ≠ 0) <|
  chk ((x1.length : Int) ≠ 0) <|
  chk (0 ≤ (w64 (phone.tdiv Z3)).tmod (x1.length : Int) ∧ (w64 (phone.tdiv Z3)).tmod (x1.length : Int) < (x1.length : Int)) <|
  some ((w64 ((w64 ((w64 ((w64 (Z2.tdiv Z3)) * (phone.tmod Z3))) + Z2)) - Z5)).tmod Z2, (x1.getD (((w64 (phone.tdiv Z3)).tmod (x1.length : Int)).toNat) 0))

def access_OccasionOf (N : Nat) (Z2 : Int) (Z3 : Int) (Z4 : Int) (Z5 : Int) (phone : Int) : Option (Int × Int × Int) :=
  bnd (access_pagingErr N Z2 Z3 Z4 Z5 ([phone] : List Int)) fun x1 =>
  br ((x1 != (0 : Int))) (
  some ((0 : Int), (0 : Int), x1)) (
  bnd (access_occasion N Z2 Z3 Z4 Z5 phone) fun (x2, x21) =>
  some (x2, x21, (0 : Int)))

def access_SleepOf (N : Nat) (Z2 : Int) (Z3 : Int) (Z4 : Int) (Z5 : Int) (phone : Int) : Option (Int × Int × Int × Int × Int) :=
  bnd (access_pagingErr N Z2 Z3 Z4 Z5 ([phone] : List Int)) fun x1 =>
  br ((x1 != (0 : Int))) (
  some ((0 : Int), (0 : Int), (0 : Int), (0 : Int), x1)) (
  bnd (access_occasion N Z2 Z3 Z4 Z5 phone) fun (x2, x21) =>
  some (w64 ((10 : Int) * Z2), w64 ((w64 ((10 : Int) * x2)) + x21), (1 : Int), (0 : Int), (0 : Int)))

def access_Together (N : Nat) (Z2 : Int) (Z3 : Int) (Z4 : Int) (Z5 : Int) (a : Int) (b : Int) : Option (Bool × Int) :=
  bnd (access_pagingErr N Z2 Z3 Z4 Z5 ([a, b] : List Int)) fun x1 =>
  br ((x1 != (0 : Int))) (
  some (false, x1)) (
  bnd (access_occasion N Z2 Z3 Z4 Z5 a) fun (x2, x21) =>
  bnd (access_occasion N Z2 Z3 Z4 Z5 b) fun (x3, x31) =>
  some (((x2 == x3) && (x21 == x31)), (0 : Int)))

def ref07_OccasionErr (N : Nat) (Z0 : Int) (Z1 : Int) : Option Int :=
  bnd (base_Within N Z0 (0 : Int) (1023 : Int)) fun x1 =>
  bnd (grd x1 false (base_Within N Z1 (0 : Int) (9 : Int))) fun x2 =>
  br (((!x1) || (!x2))) (
  some (2 : Int)) (
  some (0 : Int))

def ref07_CheckSleep (N : Nat) (Zc : Int) (Zf : Int) (Ze : Int) (Zd : Int) : Option Int :=
  bnd (base_Within N Zc (1 : Int) (20480 : Int)) fun x1 =>
  bnd (grd x1 false (base_Within N Zf (0 : Int) (w64 (Zc - (1 : Int))))) fun x2 =>
  bnd (grd (!((!x1) || (!x2))) false (base_Within N Ze (1 : Int) Zc)) fun x3 =>
  bnd (grd (!(((!x1) || (!x2)) || (!x3))) false (base_Within N Zd (0 : Int) (20480 : Int))) fun x4 =>
  br (((((!x1) || (!x2)) || (!x3)) || (!x4))) (
  some (2 : Int)) (
  some (0 : Int))

def access_occasionErr (N : Nat) (Zk : Int) (Zl : Int) : Option Int :=
  bnd (access_within N Zk (0 : Int) (1023 : Int)) fun x1 =>
  bnd (grd x1 false (access_within N Zl (0 : Int) (9 : Int))) fun x2 =>
  bnd (access_unless N (x1 && x2) (2 : Int)) fun x3 =>
  some x3

def access_IsOccasion (N : Nat) (Z2 : Int) (Z3 : Int) (Z4 : Int) (Z5 : Int) (phone : Int) (Z0 : Int) (Z1 : Int) : Option (Bool × Int) :=
  bnd (access_pagingErr N Z2 Z3 Z4 Z5 ([phone] : List Int)) fun x1 =>
  bnd (access_occasionErr N Z0 Z1) fun x2 =>
  bnd (access_first N ([x1, x2] : List Int)) fun x3 =>
  br ((x3 != (0 : Int))) (
  some (false, x3)) (
  chk (Z2 ≠ 0) <|
  bnd (access_occasion N Z2 Z3 Z4 Z5 phone) fun (x4, x41) =>
  some (((Z0.tmod Z2 == x4) && (Z1 == x41)), (0 : Int)))

def access_CheckSleep (N : Nat) (Zc : Int) (Zf : Int) (Ze : Int) (Zd : Int) : Option Int :=
  bnd (access_within N Zc (1 : Int) (20480 : Int)) fun x1 =>
  bnd (grd x1 false (access_within N Zf (0 : Int) (w64 (Zc - (1 : Int))))) fun x2 =>
  bnd (grd (x1 && x2) false (access_within N Ze (1 : Int) Zc)) fun x3 =>
  bnd (grd ((x1 && x2) && x3) false (access_within N Zd (0 : Int) (20480 : Int))) fun x4 =>
  bnd (access_unless N (((x1 && x2) && x3) && x4) (2 : Int)) fun x5 =>
  some x5

def access_isTick (N : Nat) (n : Int) : Option Bool :=
  bnd (access_within N n (0 : Int) (1000000000 : Int)) fun x1 =>
  some x1

def access_tickErr (N : Nat) (n : Int) : Option Int :=
  bnd (access_isTick N n) fun x1 =>
  bnd (access_unless N x1 (2 : Int)) fun x2 =>
  some x2

def access_sleep_since (N : Nat) (Z8 : Int) (Zb : Int) (Za : Int) (Z9 : Int) (tick : Int) : Option Int :=
  chk (Z8 ≠ 0) <|
  chk (Z8 ≠ 0) <|
  some ((w64 ((w64 ((tick.tmod Z8) + Z8)) - Zb)).tmod Z8)

def access_sleep_on (N : Nat) (Z8 : Int) (Zb : Int) (Za : Int) (Z9 : Int) (tick : Int) : Option Bool :=
  bnd (access_sleep_since N Z8 Zb Za Z9 tick) fun x1 =>
  some (decide (x1 < Za))

def access_AwakeAt (N : Nat) (Zc : Int) (Zf : Int) (Ze : Int) (Zd : Int) (tick : Int) (last : Int) : Option (Bool × Int) :=
  bnd (access_CheckSleep N Zc Zf Ze Zd) fun x1 =>
  bnd (access_tickErr N tick) fun x2 =>
  bnd (grd (!(last == (-1 : Int))) false (access_isTick N last)) fun x3 =>
  bnd (access_unless N ((last == (-1 : Int)) || x3) (2 : Int)) fun x4 =>
  bnd (access_first N ([x1, x2, x4] : List Int)) fun x5 =>
  br ((x5 != (0 : Int))) (
  some (false, x5)) (
  bnd (grd (last != (-1 : Int)) false (access_within N (w64 (tick - last)) (0 : Int) (w64 (Zd - (1 : Int))))) fun x6 =>
  bnd (grd (!((last != (-1 : Int)) && x6)) false (access_sleep_on N Zc Zf Ze Zd tick)) fun x7 =>
  some ((((last != (-1 : Int)) && x6) || x7), (0 : Int)))

def access_NextOccasion (N : Nat) (Z2 : Int) (Z3 : Int) (Z4 : Int) (Z5 : Int) (phone : Int) (Z0 : Int) (Z1 : Int) : Option (Int × Int × Int) :=
  bnd (access_pagingErr N Z2 Z3 Z4 Z5 ([phone] : List Int)) fun x1 =>
  bnd (access_occasionErr N Z0 Z1) fun x2 =>
  bnd (access_first N ([x1, x2] : List Int)) fun x3 =>
  br ((x3 != (0 : Int))) (
  some ((0 : Int), (0 : Int), x3)) (
  bnd (access_occasion N Z2 Z3 Z4 Z5 phone) fun (x4, x41) =>
  br (decide (Z1 > x41)) (
  chk (Z2 ≠ 0) <|
  chk (Z2 ≠ 0) <|
  some ((w64 ((w64 (Z0 + (1 : Int))) + ((w64 ((w64 (x4 - ((w64 (Z0 + (1 : Int))).tmod Z2))) + Z2)).tmod Z2))).tmod (1024 : Int), x41, (0 : Int))) (
  chk (Z2 ≠ 0) <|
  chk (Z2 ≠ 0) <|
  some ((w64 (Z0 + ((w64 ((w64 (x4 - (Z0.tmod Z2))) + Z2)).tmod Z2))).tmod (1024 : Int), x41, (0 : Int))))

def access_ticksErr (N : Nat) (Z7 : Int) (Z6 : Int) : Option Int :=
  bnd (access_tickErr N Z7) fun x1 =>
  bnd (access_tickErr N Z6) fun x2 =>
  bnd (access_unless N (decide (Z7 ≤ Z6)) (9 : Int)) fun x3 =>
  bnd (access_first N ([x1, x2, x3] : List Int)) fun x4 =>
  some x4

def access_sleep_before.b1 (N : Nat) (Z8 : Int) (Zb : Int) (Za : Int) (Z9 : Int) (tick : Int) (K_ : Int → Option Int) (rec : Int × Int → Option Int) : Int × Int → Option Int := fun (n1, t21) =>
  br (decide (t21 < tick.tmod Z8)) (
  bnd (access_sleep_on N Z8 Zb Za Z9 t21) fun x1 =>
  br (x1) (
  rec (w64 (n1 + (1 : Int)), w64 (t21 + (1 : Int)))) (
  rec (n1, w64 (t21 + (1 : Int))))) (
  K_ n1)
def access_sleep_before (N : Nat) (Z8 : Int) (Zb : Int) (Za : Int) (Z9 : Int) (tick : Int) : Option Int :=
  chk (Z8 ≠ 0) <|
  jn (τ := Int) (fun (n : Int) =>
    some n) fun K_ =>
  chk (Z8 ≠ 0) <|
  rds (access_sleep_before.b1 N Z8 Zb Za Z9 tick K_) N (w64 ((w64 (tick.tdiv Z8)) * Za), (0 : Int))

def access_sleep_awakeIn (N : Nat) (Z8 : Int) (Zb : Int) (Za : Int) (Z9 : Int) (Z7 : Int) (Z6 : Int) : Option Int :=
  bnd (access_sleep_before N Z8 Zb Za Z9 (w64 (Z6 + (1 : Int)))) fun x1 =>
  bnd (access_sleep_before N Z8 Zb Za Z9 Z7) fun x2 =>
  some (w64 (x1 - x2))

def access_AwakeIn (N : Nat) (Zc : Int) (Zf : Int) (Ze : Int) (Zd : Int) (Zh : Int) (Zg : Int) : Option (Int × Int) :=
  bnd (access_CheckSleep N Zc Zf Ze Zd) fun x1 =>
  bnd (access_ticksErr N Zh Zg) fun x2 =>
  bnd (access_first N ([x1, x2] : List Int)) fun x3 =>
  br ((x3 != (0 : Int))) (
  some ((0 : Int), x3)) (
  bnd (access_sleep_awakeIn N Zc Zf Ze Zd Zh Zg) fun x4 =>
  some (x4, (0 : Int)))

def access_EnergyOf_1 (N : Nat) (n : Int) : Option Bool :=
  bnd (access_within N n (0 : Int) (1000 : Int)) fun x1 =>
  some x1

def access_sleep_wakes (N : Nat) (Z8 : Int) (Zb : Int) (Za : Int) (Z9 : Int) (Z7 : Int) (Z6 : Int) : Option Int :=
  jn (τ := Int) (fun (n : Int) =>
    br ((Za == Z8)) (
    some n) (
    bnd (access_sleep_since N Z8 Zb Za Z9 Z7) fun x2 =>
    br (decide (w64 ((w64 (Z7 + Z8)) - x2) ≤ Z6)) (
    chk (Z8 ≠ 0) <|
    some (w64 (n + (w64 ((w64 ((w64 (Z6 - (w64 ((w64 (Z7 + Z8)) - x2)))).tdiv Z8)) + (1 : Int)))))) (
    some n))) fun K_ =>
  bnd (access_sleep_on N Z8 Zb Za Z9 Z7) fun x1 =>
  br (x1) (
  K_ (1 : Int)) (
  K_ (0 : Int))

def access_EnergyOf (N : Nat) (Zc : Int) (Zf : Int) (Ze : Int) (Zd : Int) (Zh : Int) (Zg : Int) (Zj : Int) (Zi : Int) (Zm : Int) : Option (Int × Int) :=
  bnd (access_CheckSleep N Zc Zf Ze Zd) fun x1 =>
  bnd (access_ticksErr N Zh Zg) fun x2 =>
  bnd (access_EnergyOf_1 N Zj) fun x3 =>
  bnd (grd x3 false (access_EnergyOf_1 N Zi)) fun x4 =>
  bnd (grd (x3 && x4) false (access_EnergyOf_1 N Zm)) fun x5 =>
  bnd (access_unless N ((x3 && x4) && x5) (2 : Int)) fun x6 =>
  bnd (access_first N ([x1, x2, x6] : List Int)) fun x7 =>
  br ((x7 != (0 : Int))) (
  some ((0 : Int), x7)) (
  bnd (access_sleep_awakeIn N Zc Zf Ze Zd Zh Zg) fun x8 =>
  bnd (access_sleep_wakes N Zc Zf Ze Zd Zh Zg) fun x9 =>
  some (w64 ((w64 ((w64 (x8 * Zj)) + (w64 ((w64 ((w64 ((w64 (Zg - Zh)) + (1 : Int))) - x8)) * Zi)))) + (w64 (x9 * Zm))), (0 : Int)))

def top_TopAccessAlike.b1 (N : Nat) (Z2 : Int) (Z3 : Int) (Z4 : Int) (Z5 : Int) (phones_0 : Int) (x7 : Int) (x71 : Int) (x72 : Int) (x73 : Int) (K_ : Int × Int → Option Bool) (rec : Int × Int × Int → Option Bool) : Int × Int × Int → Option Bool := fun (i, b62, b63) =>
  br (decide (i < w64 ((1024 : Int).tdiv Z2))) (
  bnd (access_IsOccasion N Z2 Z3 Z4 Z5 phones_0 b62 b63) fun (x13, x131) =>
  bnd (access_AwakeAt N x7 x71 x72 x73 (w64 ((w64 ((10 : Int) * b62)) + b63)) (-1 : Int)) fun (x14, x141) =>
  br (((((x131 != (0 : Int)) || (x141 != (0 : Int))) || (!x13)) || (!x14))) (
  some false) (
  bnd (access_NextOccasion N Z2 Z3 Z4 Z5 phones_0 ((w64 (b62 + (1 : Int))).tmod (1024 : Int)) (0 : Int)) fun (x15, x151, x152) =>
  br ((((x152 != (0 : Int)) || (x151 != b63)) || (x15 != (w64 (b62 + Z2)).tmod (1024 : Int)))) (
  some false) (
  rec (w64 (i + (1 : Int)), x15, x151)))) (
  K_ (b62, b63))
def top_TopAccessAlike (N : Nat) (Z2 : Int) (Z3 : Int) (Z4 : Int) (Z5 : Int) (phones_0 : Int) (phones_1 : Int) (Zj : Int) (Zi : Int) (Zm : Int) : Option Bool :=
  bnd (downtilttop_accessAwake N ) fun x1 =>
  br (!x1) (
  some false) (
  bnd (ref07_CheckPaging N Z2 Z3 Z4 Z5) fun x2 =>
  bnd (grd (!((x2 != (0 : Int)) || (decide (Z2 < (32 : Int))))) 0 (ref07_NumberErr N phones_0)) fun x3 =>
  bnd (grd (!(((x2 != (0 : Int)) || (decide (Z2 < (32 : Int)))) || (x3 != (0 : Int)))) 0 (ref07_NumberErr N phones_1)) fun x4 =>
  bnd (grd (!((((x2 != (0 : Int)) || (decide (Z2 < (32 : Int)))) || (x3 != (0 : Int))) || (x4 != (0 : Int)))) 0 (ref07_PowersErr N Zj Zi Zm)) fun x5 =>
  br ((((((x2 != (0 : Int)) || (decide (Z2 < (32 : Int)))) || (x3 != (0 : Int))) || (x4 != (0 : Int))) || (x5 != (0 : Int)))) (
  some true) (
  bnd (access_OccasionOf N Z2 Z3 Z4 Z5 phones_0) fun (x6, x61, x62) =>
  bnd (access_SleepOf N Z2 Z3 Z4 Z5 phones_0) fun (x7, x71, x72, x73, x74) =>
  bnd (access_SleepOf N Z2 Z3 Z4 Z5 phones_1) fun (x8, x81, x82, x83, x84) =>
  bnd (access_Together N Z2 Z3 Z4 Z5 phones_0 phones_1) fun (x9, x91) =>
  bnd (grd (!((((x62 != (0 : Int)) || (x74 != (0 : Int))) || (x84 != (0 : Int))) || (x91 != (0 : Int)))) 0 (ref07_OccasionErr N x6 x61)) fun x10 =>
  bnd (grd (!(((((x62 != (0 : Int)) || (x74 != (0 : Int))) || (x84 != (0 : Int))) || (x91 != (0 : Int))) || (x10 != (0 : Int)))) 0 (ref07_CheckSleep N x7 x71 x72 x73)) fun x11 =>
  bnd (grd (!(((((((x62 != (0 : Int)) || (x74 != (0 : Int))) || (x84 != (0 : Int))) || (x91 != (0 : Int))) || (x10 != (0 : Int))) || (x11 != (0 : Int))) || (x9 != ((x7 == x8) && ((x71 == x81) && ((x72 == x82) && (x73 == x83))))))) false (base_Within N x6 (0 : Int) (w64 (Z2 - (1 : Int))))) fun x12 =>
  br (((((((((x62 != (0 : Int)) || (x74 != (0 : Int))) || (x84 != (0 : Int))) || (x91 != (0 : Int))) || (x10 != (0 : Int))) || (x11 != (0 : Int))) || (x9 != ((x7 == x8) && ((x71 == x81) && ((x72 == x82) && (x73 == x83)))))) || (!x12))) (
  some false) (
  chk (Z2 ≠ 0) <|
  jn (τ := Int × Int) (fun (b6, b61) =>
    bnd (access_AwakeIn N x7 x71 x72 x73 (0 : Int) (10239 : Int)) fun (x16, x161) =>
    bnd (access_EnergyOf N x7 x71 x72 x73 (0 : Int) (10239 : Int) Zj Zi Zm) fun (x17, x171) =>
    some ((((((b6 == x6) && (b61 == x61)) && (x161 == (0 : Int))) && (x16 == w64 ((1024 : Int).tdiv Z2))) && (x171 == (0 : Int))) && (x17 == w64 ((w64 ((w64 ((1024 : Int).tdiv Z2)) * (w64 (Zj + Zm)))) + (w64 ((w64 ((w64 ((10239 : Int) + (1 : Int))) - (w64 ((1024 : Int).tdiv Z2)))) * Zi)))))) fun K_ =>
  rds (top_TopAccessAlike.b1 N Z2 Z3 Z4 Z5 phones_0 x7 x71 x72 x73 K_) N ((0 : Int), x6, x61))))
end
end Go.Sh
