import Derived.Test.YtbndgoeahoadlaaGreatDoorAsH
import Derived.Test.YtbndgoeahoadlaaGreatDoorPwG5
set_option linter.all false
namespace Go.Sh
open Go.PW
noncomputable section
def access_within (N : Nat) (n : Int) (lo : Int) (hi : Int) : Option Bool :=
  some ((decide (lo ≤ n)) && (decide (n ≤ hi)))

def access_unless (N : Nat) (is_ : Bool) (e : Int) : Option Int :=
  br (is_) (
  some (0 : Int)) (
  some e)

def access_first.b1 (N : Nat) (l : List Int) (K_ : Unit → Option Int) (rec : Int → Option Int) : Int → Option Int := fun t7 =>
  br (decide (t7 < (l.length : Int))) (
  chk (0 ≤ t7 ∧ t7 < (l.length : Int)) <|
  br (((l.getD t7.toNat 0) != (0 : Int))) (
  some (l.getD t7.toNat 0)) (
  rec (w64 (t7 + (1 : Int))))) (
  K_ ())
def access_first (N : Nat) (l : List Int) : Option Int :=
  jn (τ := Unit) (fun (_ : Unit) =>
    some (0 : Int)) fun K_ =>
  rds (access_first.b1 N l K_) N (0 : Int)

def base_Within (N : Nat) (n : Int) (lo : Int) (hi : Int) : Option Bool :=
  some ((decide (lo ≤ n)) && (decide (n ≤ hi)))

def access_places (N : Nat) (occasions : Int) : Option (List Int) :=
  br ((occasions == (1 : Int))) (
  chk (0 < ([(9 : Int)] : List Int).length) <|
  some ([(9 : Int)] : List Int)) (
  br ((occasions == (2 : Int))) (
  chk (0 < ([(4 : Int), (9 : Int)] : List Int).length) <|
  some ([(4 : Int), (9 : Int)] : List Int)) (
  br ((occasions == (4 : Int))) (
  chk (0 < ([(0 : Int), (4 : Int), (5 : Int), (9 : Int)] : List Int).length) <|
  some ([(0 : Int), (4 : Int), (5 : Int), (9 : Int)] : List Int)) (
  some ([] : List Int))))

def access_CheckPaging (N : Nat) (Z2 : Int) (Z3 : Int) (Z4 : Int) (Z5 : Int) : Option Int :=
  bnd (access_within N Z2 (1 : Int) (256 : Int)) fun x1 =>
  bnd (access_unless N x1 (2 : Int)) fun x2 =>
  bnd (access_unless N (andI Z2 (w64 (Z2 - (1 : Int))) == (0 : Int)) (3 : Int)) fun x3 =>
  bnd (access_within N Z3 (1 : Int) Z2) fun x4 =>
  bnd (access_unless N x4 (2 : Int)) fun x5 =>
  bnd (access_first N ([x2, x3, x5] : List Int)) fun x6 =>
  br ((x6 != (0 : Int))) (
  some x6) (
  chk (Z3 ≠ 0) <|
  bnd (access_unless N (Z2.tmod Z3 == (0 : Int)) (3 : Int)) fun x7 =>
  bnd (access_places N Z4) fun x8 =>
  bnd (access_unless N (!(x8.isEmpty)) (15 : Int)) fun x9 =>
  bnd (access_within N Z5 (0 : Int) (w64 (Z2 - (1 : Int)))) fun x10 =>
  bnd (access_unless N x10 (2 : Int)) fun x11 =>
  bnd (access_first N ([x7, x9, x11] : List Int)) fun x12 =>
  some x12)

def access_pagingErr.b1 (N : Nat) (phones : List Int) (K_ : Int → Option Int) (rec : Int × Int → Option Int) : Int × Int → Option Int := fun (e1, t12) =>
  br (decide (t12 < (phones.length : Int))) (
  chk (0 ≤ t12 ∧ t12 < (phones.length : Int)) <|
  bnd (access_within N (phones.getD t12.toNat 0) (0 : Int) (1000000 : Int)) fun x2 =>
  bnd (access_unless N x2 (2 : Int)) fun x3 =>
  bnd (access_first N ([e1, x3] : List Int)) fun x4 =>
  rec (x4, w64 (t12 + (1 : Int)))) (
  K_ e1)
def access_pagingErr (N : Nat) (Z2 : Int) (Z3 : Int) (Z4 : Int) (Z5 : Int) (phones : List Int) : Option Int :=
  bnd (access_CheckPaging N Z2 Z3 Z4 Z5) fun x1 =>
  jn (τ := Int) (fun (e : Int) =>
    some e) fun K_ =>
  rds (access_pagingErr.b1 N phones K_) N (x1, (0 : Int))

def access_occasion (N : Nat) (Z2 : Int) (Z3 : Int) (Z4 : Int) (Z5 : Int) (phone : Int) : Option (Int × Int) :=
  bnd (access_places N Z4) fun x1 =>
  chk (Z3 ≠ 0) <|
  chk (Z3 ≠ 0) <|
  chk (Z2 ≠ 0) <|
  chk (Z3 ≠ 0) <|
  chk ((x1.length : Int) ≠ 0) <|
  chk (0 ≤ (w64 (phone.tdiv Z3)).tmod (x1.length : Int) ∧ (w64 (phone.tdiv Z3)).tmod (x1.length : Int) < (x1.length : Int)) <|
  some ((w64 ((w64 ((w64 ((w64 (Z2.tdiv Z3)) * (phone.tmod Z3))) + Z2)) - Z5)).tmod Z2, (x1.getD (((w64 (phone.tdiv Z3)).tmod (x1.length : Int)).toNat) 0))

def access_OccasionOf (N : Nat) (Z2 : Int) (Z3 : Int) (Z4 : Int) (Z5 : Int) (phone : Int) : Option (Int × Int × Int) :=
  bnd (access_pagingErr N Z2 Z3 Z4 Z5 ([phone] : List Int)) fun x1 =>
  br ((x1 != (0 : Int))) (
  some ((0 : Int), (0 : Int), x1)) (
  bnd (access_occasion N Z2 Z3 Z4 Z5 phone) fun (x2, x21) =>
  some (x2, x21, (0 : Int)))

def access_occasionErr (N : Nat) (Zk : Int) (Zp : Int) : Option Int :=
  bnd (access_within N Zk (0 : Int) (1023 : Int)) fun x1 =>
  bnd (grd x1 false (access_within N Zp (0 : Int) (9 : Int))) fun x2 =>
  bnd (access_unless N (x1 && x2) (2 : Int)) fun x3 =>
  some x3

def access_IsOccasion (N : Nat) (Z2 : Int) (Z3 : Int) (Z4 : Int) (Z5 : Int) (phone : Int) (Z0 : Int) (Z1 : Int) : Option (Bool × Int) :=
  bnd (access_pagingErr N Z2 Z3 Z4 Z5 ([phone] : List Int)) fun x1 =>
  bnd (access_occasionErr N Z0 Z1) fun x2 =>
  bnd (access_first N ([x1, x2] : List Int)) fun x3 =>
  br ((x3 != (0 : Int))) (
  some (false, x3)) (
  chk (Z2 ≠ 0) <|
  bnd (access_occasion N Z2 Z3 Z4 Z5 phone) fun (x4, x41) =>
  some (((Z0.tmod Z2 == x4) && (Z1 == x41)), (0 : Int)))

def access_NextOccasion (N : Nat) (Z2 : Int) (Z3 : Int) (Z4 : Int) (Z5 : Int) (phone : Int) (Z0 : Int) (Z1 : Int) : Option (Int × Int × Int) :=
  bnd (access_pagingErr N Z2 Z3 Z4 Z5 ([phone] : List Int)) fun x1 =>
  bnd (access_occasionErr N Z0 Z1) fun x2 =>
  bnd (access_first N ([x1, x2] : List Int)) fun x3 =>
  br ((x3 != (0 : Int))) (
  some ((0 : Int), (0 : Int), x3)) (
  bnd (access_occasion N Z2 Z3 Z4 Z5 phone) fun (x4, x41) =>
  br (decide (Z1 > x41)) (
  chk (Z2 ≠ 0) <|
  chk (Z2 ≠ 0) <|
  some ((w64 ((w64 (Z0 + (1 : Int))) + ((w64 ((w64 (x4 - ((w64 (Z0 + (1 : Int))).tmod Z2))) + Z2)).tmod Z2))).tmod (1024 : Int), x41, (0 : Int))) (
  chk (Z2 ≠ 0) <|
  chk (Z2 ≠ 0) <|
  some ((w64 (Z0 + ((w64 ((w64 (x4 - (Z0.tmod Z2))) + Z2)).tmod Z2))).tmod (1024 : Int), x41, (0 : Int))))

def access_Together (N : Nat) (Z2 : Int) (Z3 : Int) (Z4 : Int) (Z5 : Int) (a : Int) (b : Int) : Option (Bool × Int) :=
  bnd (access_pagingErr N Z2 Z3 Z4 Z5 ([a, b] : List Int)) fun x1 =>
  br ((x1 != (0 : Int))) (
  some (false, x1)) (
  bnd (access_occasion N Z2 Z3 Z4 Z5 a) fun (x2, x21) =>
  bnd (access_occasion N Z2 Z3 Z4 Z5 b) fun (x3, x31) =>
  some (((x2 == x3) && (x21 == x31)), (0 : Int)))

def ref07_CheckPaging (N : Nat) (Z2 : Int) (Z3 : Int) (Z4 : Int) (Z5 : Int) : Option Int :=
  bnd (base_Within N Z2 (1 : Int) (256 : Int)) fun x1 =>
  br (!x1) (
  some (2 : Int)) (
  chk (Z2 ≠ 0) <|
  br (((256 : Int).tmod Z2 != (0 : Int))) (
  some (3 : Int)) (
  bnd (base_Within N Z3 (1 : Int) Z2) fun x2 =>
  br (!x2) (
  some (2 : Int)) (
  chk (Z3 ≠ 0) <|
  br ((Z2.tmod Z3 != (0 : Int))) (
  some (3 : Int)) (
  br ((((Z4 != (1 : Int)) && (Z4 != (2 : Int))) && (Z4 != (4 : Int)))) (
  some (15 : Int)) (
  bnd (base_Within N Z5 (0 : Int) (w64 (Z2 - (1 : Int)))) fun x3 =>
  br (!x3) (
  some (2 : Int)) (
  some (0 : Int)))))))

def ref07_NumberErr (N : Nat) (phone : Int) : Option Int :=
  bnd (base_Within N phone (0 : Int) (1000000 : Int)) fun x1 =>
  br (!x1) (
  some (2 : Int)) (
  some (0 : Int))

def ref07_subframe (N : Nat) (Z2 : Int) (Z3 : Int) (Z4 : Int) (Z5 : Int) (phone : Int) : Option Int :=
  jn (τ := List Int) (fun (l : List Int) =>
    jn (τ := List Int) (fun (l1 : List Int) =>
      chk (Z3 ≠ 0) <|
      chk (Z4 ≠ 0) <|
      chk (0 ≤ (w64 (phone.tdiv Z3)).tmod Z4 ∧ (w64 (phone.tdiv Z3)).tmod Z4 < (l1.length : Int)) <|
      some (l1.getD (((w64 (phone.tdiv Z3)).tmod Z4).toNat) 0)) fun K_1 =>
    br ((Z4 == (4 : Int))) (
    K_1 ([(0 : Int), (4 : Int), (5 : Int), (9 : Int)] : List Int)) (
    K_1 l)) fun K_ =>
  br ((Z4 == (2 : Int))) (
  K_ ([(4 : Int), (9 : Int)] : List Int)) (
  K_ ([(9 : Int)] : List Int))

def ref07_IsOccasion (N : Nat) (Z2 : Int) (Z3 : Int) (Z4 : Int) (Z5 : Int) (phone : Int) (Z0 : Int) (Z1 : Int) : Option Bool :=
  chk (Z2 ≠ 0) <|
  chk (Z3 ≠ 0) <|
  chk (Z3 ≠ 0) <|
  bnd (grd ((w64 (Z0 + Z5)).tmod Z2 == w64 ((w64 (Z2.tdiv Z3)) * (phone.tmod Z3))) 0 (ref07_subframe N Z2 Z3 Z4 Z5 phone)) fun x1 =>
  some (((w64 (Z0 + Z5)).tmod Z2 == w64 ((w64 (Z2.tdiv Z3)) * (phone.tmod Z3))) && (Z1 == x1))

def ref07_NextOccasion.b1 (N : Nat) (Z2 : Int) (Z3 : Int) (Z4 : Int) (Z5 : Int) (phone : Int) (K_ : Int × Int → Option (Int × Int)) (rec : Int × Int → Option (Int × Int)) : Int × Int → Option (Int × Int) := fun (b12, b13) =>
  bnd (ref07_IsOccasion N Z2 Z3 Z4 Z5 phone b12 b13) fun x1 =>
  br (!x1) (
  br ((w64 (b13 + (1 : Int)) == (10 : Int))) (
  rec ((w64 (b12 + (1 : Int))).tmod (1024 : Int), (0 : Int))) (
  rec (b12, w64 (b13 + (1 : Int))))) (
  K_ (b12, b13))
def ref07_NextOccasion (N : Nat) (Z2 : Int) (Z3 : Int) (Z4 : Int) (Z5 : Int) (phone : Int) (Z0 : Int) (Z1 : Int) : Option (Int × Int) :=
  jn (τ := Int × Int) (fun (b1, b11) =>
    some (b1, b11)) fun K_ =>
  rds (ref07_NextOccasion.b1 N Z2 Z3 Z4 Z5 phone K_) N (Z0, Z1)

def ref07_OccasionOf (N : Nat) (Z2 : Int) (Z3 : Int) (Z4 : Int) (Z5 : Int) (phone : Int) : Option (Int × Int) :=
  bnd (ref07_NextOccasion N Z2 Z3 Z4 Z5 phone (0 : Int) (0 : Int)) fun (x1, x11) =>
  some (x1, x11)

def ref07_OccasionErr (N : Nat) (Z0 : Int) (Z1 : Int) : Option Int :=
  bnd (base_Within N Z0 (0 : Int) (1023 : Int)) fun x1 =>
  bnd (grd x1 false (base_Within N Z1 (0 : Int) (9 : Int))) fun x2 =>
  br (((!x1) || (!x2))) (
  some (2 : Int)) (
  some (0 : Int))

def law07_AccessPages (N : Nat) (Z2 : Int) (Z3 : Int) (Z4 : Int) (Z5 : Int) (phones_0 : Int) (phones_1 : Int) (Z0 : Int) (Z1 : Int) : Option Bool :=
  bnd (law07_awake N ) fun x1 =>
  br (!x1) (
  some false) (
  bnd (access_CheckPaging N Z2 Z3 Z4 Z5) fun x2 =>
  bnd (access_OccasionOf N Z2 Z3 Z4 Z5 phones_0) fun (x3, x31, x32) =>
  bnd (access_IsOccasion N Z2 Z3 Z4 Z5 phones_0 Z0 Z1) fun (x4, x41) =>
  bnd (access_NextOccasion N Z2 Z3 Z4 Z5 phones_0 Z0 Z1) fun (x5, x51, x52) =>
  bnd (access_Together N Z2 Z3 Z4 Z5 phones_0 phones_1) fun (x6, x61) =>
  bnd (ref07_CheckPaging N Z2 Z3 Z4 Z5) fun x7 =>
  br ((x2 != x7)) (
  some false) (
  jn (τ := Int) (fun (d : Int) =>
    br ((d != (0 : Int))) (
    some ((((((((x32 == d) && (x41 == d)) && (x52 == d)) && (x61 == d)) && ((x3 == (0 : Int)) && (x31 == (0 : Int)))) && (!x4)) && ((x5 == (0 : Int)) && (x51 == (0 : Int)))) && (!x6))) (
    bnd (grd (!(x32 != (0 : Int))) default (ref07_OccasionOf N Z2 Z3 Z4 Z5 phones_0)) fun (x9, x91) =>
    br (((x32 != (0 : Int)) || (!((x3 == x9) && (x31 == x91))))) (
    some false) (
    jn (τ := Unit) (fun (_ : Unit) =>
      bnd (ref07_OccasionErr N Z0 Z1) fun x13 =>
      br ((x13 != (0 : Int))) (
      some ((((x41 == x13) && (x52 == x13)) && (!x4)) && ((x5 == (0 : Int)) && (x51 == (0 : Int))))) (
      bnd (grd (x41 == (0 : Int)) false (ref07_IsOccasion N Z2 Z3 Z4 Z5 phones_0 Z0 Z1)) fun x14 =>
      bnd (grd (((x41 == (0 : Int)) && (x4 == x14)) && (x52 == (0 : Int))) default (ref07_NextOccasion N Z2 Z3 Z4 Z5 phones_0 Z0 Z1)) fun (x15, x151) =>
      some ((((x41 == (0 : Int)) && (x4 == x14)) && (x52 == (0 : Int))) && ((x5 == x15) && (x51 == x151))))) fun K_1 =>
    bnd (ref07_NumberErr N phones_1) fun x10 =>
    br ((x10 != (0 : Int))) (
    br (((x61 != x10) || x6)) (
    some false) (
    K_1 ())) (
    bnd (grd (!(x61 != (0 : Int))) default (ref07_OccasionOf N Z2 Z3 Z4 Z5 phones_0)) fun (x11, x111) =>
    bnd (grd (!(x61 != (0 : Int))) default (ref07_OccasionOf N Z2 Z3 Z4 Z5 phones_1)) fun (x12, x121) =>
    br (((x61 != (0 : Int)) || (x6 != ((x11 == x12) && (x111 == x121))))) (
    some false) (
    K_1 ()))))) fun K_ =>
  br ((x7 == (0 : Int))) (
  bnd (ref07_NumberErr N phones_0) fun x8 =>
  K_ x8) (
  K_ x7)))

end
end Go.Sh
