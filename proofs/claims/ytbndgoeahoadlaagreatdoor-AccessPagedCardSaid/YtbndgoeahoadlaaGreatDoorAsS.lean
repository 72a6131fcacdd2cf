import Derived.Test.YtbndgoeahoadlaaGreatDoorAsH
import Derived.Test.YtbndgoeahoadlaaGreatDoorPwG5
set_option linter.all false
namespace Go.Sh
open Go.PW
noncomputable section
def access_within (N : Nat) (n : Int) (lo : Int) (hi : Int) : Option Bool :=
  some ((decide (lo ≤ n)) && (decide (n ≤ hi)))

def access_unless (N : Nat) (is_ : Bool) (e : Int) : Option Int :=
  br (is_) (
  some (0 : Int)) (
  some e)

def access_CheckSleep (N : Nat) (Zc : Int) (Zf : Int) (Ze : Int) (Zd : Int) : Option Int :=
  bnd (access_within N Zc (1 : Int) (20480 : Int)) fun x1 =>
  bnd (grd x1 false (access_within N Zf (0 : Int) (w64 (Zc - (1 : Int))))) fun x2 =>
  bnd (grd (x1 && x2) false (access_within N Ze (1 : Int) Zc)) fun x3 =>
  bnd (grd ((x1 && x2) && x3) false (access_within N Zd (0 : Int) (20480 : Int))) fun x4 =>
  bnd (access_unless N (((x1 && x2) && x3) && x4) (2 : Int)) fun x5 =>
  some x5

def access_isTick (N : Nat) (n : Int) : Option Bool :=
  bnd (access_within N n (0 : Int) (1000000000 : Int)) fun x1 =>
  some x1

def access_tickErr (N : Nat) (n : Int) : Option Int :=
  bnd (access_isTick N n) fun x1 =>
  bnd (access_unless N x1 (2 : Int)) fun x2 =>
  some x2

def access_first.b1 (N : Nat) (l : List Int) (K_ : Unit → Option Int) (rec : Int → Option Int) : Int → Option Int := fun t7 =>
  br (decide (t7 < (l.length : Int))) (
  chk (0 ≤ t7 ∧ t7 < (l.length : Int)) <|
  br (((l.getD t7.toNat 0) != (0 : Int))) (
  some (l.getD t7.toNat 0)) (
  rec (w64 (t7 + (1 : Int))))) (
  K_ ())
def access_first (N : Nat) (l : List Int) : Option Int :=
  jn (τ := Unit) (fun (_ : Unit) =>
    some (0 : Int)) fun K_ =>
  rds (access_first.b1 N l K_) N (0 : Int)

def access_sleep_since (N : Nat) (Z8 : Int) (Zb : Int) (Za : Int) (Z9 : Int) (tick : Int) : Option Int :=
  chk (Z8 ≠ 0) <|
  chk (Z8 ≠ 0) <|
  some ((w64 ((w64 ((tick.tmod Z8) + Z8)) - Zb)).tmod Z8)

def access_sleep_on (N : Nat) (Z8 : Int) (Zb : Int) (Za : Int) (Z9 : Int) (tick : Int) : Option Bool :=
  bnd (access_sleep_since N Z8 Zb Za Z9 tick) fun x1 =>
  some (decide (x1 < Za))

def access_AwakeAt (N : Nat) (Zc : Int) (Zf : Int) (Ze : Int) (Zd : Int) (tick : Int) (last : Int) : Option (Bool × Int) :=
  bnd (access_CheckSleep N Zc Zf Ze Zd) fun x1 =>
  bnd (access_tickErr N tick) fun x2 =>
  bnd (grd (!(last == (-1 : Int))) false (access_isTick N last)) fun x3 =>
  bnd (access_unless N ((last == (-1 : Int)) || x3) (2 : Int)) fun x4 =>
  bnd (access_first N ([x1, x2, x4] : List Int)) fun x5 =>
  br ((x5 != (0 : Int))) (
  some (false, x5)) (
  bnd (grd (last != (-1 : Int)) false (access_within N (w64 (tick - last)) (0 : Int) (w64 (Zd - (1 : Int))))) fun x6 =>
  bnd (grd (!((last != (-1 : Int)) && x6)) false (access_sleep_on N Zc Zf Ze Zd tick)) fun x7 =>
  some ((((last != (-1 : Int)) && x6) || x7), (0 : Int)))

def access_NextAwake (N : Nat) (Zc : Int) (Zf : Int) (Ze : Int) (Zd : Int) (tick : Int) : Option (Int × Int) :=
  bnd (access_CheckSleep N Zc Zf Ze Zd) fun x1 =>
  bnd (access_tickErr N tick) fun x2 =>
  bnd (access_first N ([x1, x2] : List Int)) fun x3 =>
  br ((x3 != (0 : Int))) (
  some ((0 : Int), x3)) (
  bnd (access_sleep_on N Zc Zf Ze Zd tick) fun x4 =>
  br (x4) (
  some (tick, (0 : Int))) (
  bnd (access_sleep_since N Zc Zf Ze Zd tick) fun x5 =>
  some (w64 ((w64 (tick + Zc)) - x5), (0 : Int))))

def base_Within (N : Nat) (n : Int) (lo : Int) (hi : Int) : Option Bool :=
  some ((decide (lo ≤ n)) && (decide (n ≤ hi)))

def ref07_CheckSleep (N : Nat) (Zc : Int) (Zf : Int) (Ze : Int) (Zd : Int) : Option Int :=
  bnd (base_Within N Zc (1 : Int) (20480 : Int)) fun x1 =>
  bnd (grd x1 false (base_Within N Zf (0 : Int) (w64 (Zc - (1 : Int))))) fun x2 =>
  bnd (grd (!((!x1) || (!x2))) false (base_Within N Ze (1 : Int) Zc)) fun x3 =>
  bnd (grd (!(((!x1) || (!x2)) || (!x3))) false (base_Within N Zd (0 : Int) (20480 : Int))) fun x4 =>
  br (((((!x1) || (!x2)) || (!x3)) || (!x4))) (
  some (2 : Int)) (
  some (0 : Int))

def access_places (N : Nat) (occasions : Int) : Option (List Int) :=
  br ((occasions == (1 : Int))) (
  chk (0 < ([(9 : Int)] : List Int).length) <|
  some ([(9 : Int)] : List Int)) (
  br ((occasions == (2 : Int))) (
  chk (0 < ([(4 : Int), (9 : Int)] : List Int).length) <|
  some ([(4 : Int), (9 : Int)] : List Int)) (
  br ((occasions == (4 : Int))) (
  chk (0 < ([(0 : Int), (4 : Int), (5 : Int), (9 : Int)] : List Int).length) <|
  some ([(0 : Int), (4 : Int), (5 : Int), (9 : Int)] : List Int)) (
  some ([] : List Int))))

def access_CheckPaging (N : Nat) (Z2 : Int) (Z3 : Int) (Z4 : Int) (Z5 : Int) : Option Int :=
  bnd (access_within N Z2 (1 : Int) (256 : Int)) fun x1 =>
  bnd (access_unless N x1 (2 : Int)) fun x2 =>
  bnd (access_unless N (andI Z2 (w64 (Z2 - (1 : Int))) == (0 : Int)) (3 : Int)) fun x3 =>
  bnd (access_within N Z3 (1 : Int) Z2) fun x4 =>
  bnd (access_unless N x4 (2 : Int)) fun x5 =>
  bnd (access_first N ([x2, x3, x5] : List Int)) fun x6 =>
  br ((x6 != (0 : Int))) (
  some x6) (
  chk (Z3 ≠ 0) <|
  bnd (access_unless N (Z2.tmod Z3 == (0 : Int)) (3 : Int)) fun x7 =>
  bnd (access_places N Z4) fun x8 =>
  bnd (access_unless N (!(x8.isEmpty)) (15 : Int)) fun x9 =>
  bnd (access_within N Z5 (0 : Int) (w64 (Z2 - (1 : Int)))) fun x10 =>
  bnd (access_unless N x10 (2 : Int)) fun x11 =>
  bnd (access_first N ([x7, x9, x11] : List Int)) fun x12 =>
  some x12)

def access_pagingErr.b1 (N : Nat) (phones : List Int) (K_ : Int → Option Int) (rec : Int × Int → Option Int) : Int × Int → Option Int := fun (e1, t12) =>
  br (decide (t12 < (phones.length : Int))) (
  chk (0 ≤ t12 ∧ t12 < (phones.length : Int)) <|
  bnd (access_within N (phones.getD t12.toNat 0) (0 : Int) (1000000 : Int)) fun x2 =>
  bnd (access_unless N x2 (2 : Int)) fun x3 =>
  bnd (access_first N ([e1, x3] : List Int)) fun x4 =>
  rec (x4, w64 (t12 + (1 : Int)))) (
  K_ e1)
def access_pagingErr (N : Nat) (Z2 : Int) (Z3 : Int) (Z4 : Int) (Z5 : Int) (phones : List Int) : Option Int :=
  bnd (access_CheckPaging N Z2 Z3 Z4 Z5) fun x1 =>
  jn (τ := Int) (fun (e : Int) =>
    some e) fun K_ =>
  rds (access_pagingErr.b1 N phones K_) N (x1, (0 : Int))

def access_occasion (N : Nat) (Z2 : Int) (Z3 : Int) (Z4 : Int) (Z5 : Int) (phone : Int) : Option (Int × Int) :=
  bnd (access_places N Z4) fun x1 =>
  chk (Z3 ≠ 0) <|
  chk (Z3 ≠ 0) <|
  chk (Z2 ≠ 0) <|
  chk (Z3 ≠ 0) <|
  chk ((x1.length : Int) ≠ 0) <|
  chk (0 ≤ (w64 (phone.tdiv Z3)).tmod (x1.length : Int) ∧ (w64 (phone.tdiv Z3)).tmod (x1.length : Int) < (x1.length : Int)) <|
  some ((w64 ((w64 ((w64 ((w64 (Z2.tdiv Z3)) * (phone.tmod Z3))) + Z2)) - Z5)).tmod Z2, (x1.getD (((w64 (phone.tdiv Z3)).tmod (x1.length : Int)).toNat) 0))

def access_occasionErr (N : Nat) (Zk : Int) (Zp : Int) : Option Int :=
  bnd (access_within N Zk (0 : Int) (1023 : Int)) fun x1 =>
  bnd (grd x1 false (access_within N Zp (0 : Int) (9 : Int))) fun x2 =>
  bnd (access_unless N (x1 && x2) (2 : Int)) fun x3 =>
  some x3

def access_IsOccasion (N : Nat) (Z2 : Int) (Z3 : Int) (Z4 : Int) (Z5 : Int) (phone : Int) (Z0 : Int) (Z1 : Int) : Option (Bool × Int) :=
  bnd (access_pagingErr N Z2 Z3 Z4 Z5 ([phone] : List Int)) fun x1 =>
  bnd (access_occasionErr N Z0 Z1) fun x2 =>
  bnd (access_first N ([x1, x2] : List Int)) fun x3 =>
  br ((x3 != (0 : Int))) (
  some (false, x3)) (
  chk (Z2 ≠ 0) <|
  bnd (access_occasion N Z2 Z3 Z4 Z5 phone) fun (x4, x41) =>
  some (((Z0.tmod Z2 == x4) && (Z1 == x41)), (0 : Int)))

def access_NextOccasion (N : Nat) (Z2 : Int) (Z3 : Int) (Z4 : Int) (Z5 : Int) (phone : Int) (Z0 : Int) (Z1 : Int) : Option (Int × Int × Int) :=
  bnd (access_pagingErr N Z2 Z3 Z4 Z5 ([phone] : List Int)) fun x1 =>
  bnd (access_occasionErr N Z0 Z1) fun x2 =>
  bnd (access_first N ([x1, x2] : List Int)) fun x3 =>
  br ((x3 != (0 : Int))) (
  some ((0 : Int), (0 : Int), x3)) (
  bnd (access_occasion N Z2 Z3 Z4 Z5 phone) fun (x4, x41) =>
  br (decide (Z1 > x41)) (
  chk (Z2 ≠ 0) <|
  chk (Z2 ≠ 0) <|
  some ((w64 ((w64 (Z0 + (1 : Int))) + ((w64 ((w64 (x4 - ((w64 (Z0 + (1 : Int))).tmod Z2))) + Z2)).tmod Z2))).tmod (1024 : Int), x41, (0 : Int))) (
  chk (Z2 ≠ 0) <|
  chk (Z2 ≠ 0) <|
  some ((w64 (Z0 + ((w64 ((w64 (x4 - (Z0.tmod Z2))) + Z2)).tmod Z2))).tmod (1024 : Int), x41, (0 : Int))))

def ref07_CheckPaging (N : Nat) (Z2 : Int) (Z3 : Int) (Z4 : Int) (Z5 : Int) : Option Int :=
  bnd (base_Within N Z2 (1 : Int) (256 : Int)) fun x1 =>
  br (!x1) (
  some (2 : Int)) (
  chk (Z2 ≠ 0) <|
  br (((256 : Int).tmod Z2 != (0 : Int))) (
  some (3 : Int)) (
  bnd (base_Within N Z3 (1 : Int) Z2) fun x2 =>
  br (!x2) (
  some (2 : Int)) (
  chk (Z3 ≠ 0) <|
  br ((Z2.tmod Z3 != (0 : Int))) (
  some (3 : Int)) (
  br ((((Z4 != (1 : Int)) && (Z4 != (2 : Int))) && (Z4 != (4 : Int)))) (
  some (15 : Int)) (
  bnd (base_Within N Z5 (0 : Int) (w64 (Z2 - (1 : Int)))) fun x3 =>
  br (!x3) (
  some (2 : Int)) (
  some (0 : Int)))))))

def ref07_NumberErr (N : Nat) (phone : Int) : Option Int :=
  bnd (base_Within N phone (0 : Int) (1000000 : Int)) fun x1 =>
  br (!x1) (
  some (2 : Int)) (
  some (0 : Int))

def ref07_OccasionErr (N : Nat) (Z0 : Int) (Z1 : Int) : Option Int :=
  bnd (base_Within N Z0 (0 : Int) (1023 : Int)) fun x1 =>
  bnd (grd x1 false (base_Within N Z1 (0 : Int) (9 : Int))) fun x2 =>
  br (((!x1) || (!x2))) (
  some (2 : Int)) (
  some (0 : Int))

def access_SleepOf (N : Nat) (Z2 : Int) (Z3 : Int) (Z4 : Int) (Z5 : Int) (phone : Int) : Option (Int × Int × Int × Int × Int) :=
  bnd (access_pagingErr N Z2 Z3 Z4 Z5 ([phone] : List Int)) fun x1 =>
  br ((x1 != (0 : Int))) (
  some ((0 : Int), (0 : Int), (0 : Int), (0 : Int), x1)) (
  bnd (access_occasion N Z2 Z3 Z4 Z5 phone) fun (x2, x21) =>
  some (w64 ((10 : Int) * Z2), w64 ((w64 ((10 : Int) * x2)) + x21), (1 : Int), (0 : Int), (0 : Int)))

def law07_AccessPaged (N : Nat) (Z2 : Int) (Z3 : Int) (Z4 : Int) (Z5 : Int) (phone : Int) (Z0 : Int) (Z1 : Int) : Option Bool :=
  bnd (law07_awake N ) fun x1 =>
  br (!x1) (
  some false) (
  bnd (access_SleepOf N Z2 Z3 Z4 Z5 phone) fun (x2, x21, x22, x23, x24) =>
  bnd (ref07_CheckPaging N Z2 Z3 Z4 Z5) fun x3 =>
  bnd (grd (!(x3 != (0 : Int))) 0 (ref07_NumberErr N phone)) fun x4 =>
  br (((x3 != (0 : Int)) || (x4 != (0 : Int)))) (
  some ((x24 != (0 : Int)) && ((x2 == (0 : Int)) && ((x21 == (0 : Int)) && ((x22 == (0 : Int)) && (x23 == (0 : Int))))))) (
  bnd (grd (!(x24 != (0 : Int))) 0 (ref07_CheckSleep N x2 x21 x22 x23)) fun x5 =>
  br (((x24 != (0 : Int)) || (x5 != (0 : Int)))) (
  some false) (
  bnd (ref07_OccasionErr N Z0 Z1) fun x6 =>
  br ((x6 != (0 : Int))) (
  some true) (
  bnd (access_IsOccasion N Z2 Z3 Z4 Z5 phone Z0 Z1) fun (x7, x71) =>
  bnd (access_AwakeAt N x2 x21 x22 x23 (w64 ((w64 ((10 : Int) * Z0)) + Z1)) (-1 : Int)) fun (x8, x81) =>
  bnd (access_NextOccasion N Z2 Z3 Z4 Z5 phone Z0 Z1) fun (x9, x91, x92) =>
  bnd (access_NextAwake N x2 x21 x22 x23 (w64 ((w64 ((10 : Int) * Z0)) + Z1))) fun (x10, x101) =>
  bnd (access_IsOccasion N Z2 Z3 Z4 Z5 phone ((w64 (Z0 + Z2)).tmod (1024 : Int)) Z1) fun (x11, x111) =>
  bnd (grd (!(((((((x71 != (0 : Int)) || (x81 != (0 : Int))) || (x92 != (0 : Int))) || (x101 != (0 : Int))) || (x111 != (0 : Int))) || (x7 != x8)) || (x7 != x11))) 0 (ref07_OccasionErr N x9 x91)) fun x12 =>
  br (((((((((x71 != (0 : Int)) || (x81 != (0 : Int))) || (x92 != (0 : Int))) || (x101 != (0 : Int))) || (x111 != (0 : Int))) || (x7 != x8)) || (x7 != x11)) || (x12 != (0 : Int)))) (
  some false) (
  bnd (base_Within N x10 (w64 ((w64 ((10 : Int) * Z0)) + Z1)) (w64 ((w64 ((w64 ((10 : Int) * Z0)) + Z1)) + x2))) fun x13 =>
  chk (x13 = true → (10240 : Int) ≠ 0) <|
  some (x13 && (x10.tmod (10240 : Int) == w64 ((w64 ((10 : Int) * x9)) + x91))))))))
end
end Go.Sh
