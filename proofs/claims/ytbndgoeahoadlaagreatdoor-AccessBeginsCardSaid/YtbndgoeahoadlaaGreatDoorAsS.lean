import Derived.Test.YtbndgoeahoadlaaGreatDoorAsH
import Derived.Test.YtbndgoeahoadlaaGreatDoorPwG5
set_option linter.all false
namespace Go.Sh
open Go.PW
noncomputable section
def access_within (N : Nat) (n : Int) (lo : Int) (hi : Int) : Option Bool :=
  some ((decide (lo ≤ n)) && (decide (n ≤ hi)))

def access_unless (N : Nat) (is_ : Bool) (e : Int) : Option Int :=
  br (is_) (
  some (0 : Int)) (
  some e)

def access_first.b1 (N : Nat) (l : List Int) (K_ : Unit → Option Int) (rec : Int → Option Int) : Int → Option Int := fun t7 =>
  br (decide (t7 < (l.length : Int))) (
  chk (0 ≤ t7 ∧ t7 < (l.length : Int)) <|
  br (((l.getD t7.toNat 0) != (0 : Int))) (
  some (l.getD t7.toNat 0)) (
  rec (w64 (t7 + (1 : Int))))) (
  K_ ())
def access_first (N : Nat) (l : List Int) : Option Int :=
  jn (τ := Unit) (fun (_ : Unit) =>
    some (0 : Int)) fun K_ =>
  rds (access_first.b1 N l K_) N (0 : Int)

def base_Within (N : Nat) (n : Int) (lo : Int) (hi : Int) : Option Bool :=
  some ((decide (lo ≤ n)) && (decide (n ≤ hi)))

def access_CheckRules (N : Nat) (Zf : Int) (Zb : Int) (Zi : Int) (Zh : Int) (Zg : Int) (Za : Int) (Zd : Int) : Option Int :=
  jn (τ := Unit) (fun (_ : Unit) =>
    some (0 : Int)) fun K_ =>
  bnd (access_within N Zf (1 : Int) (8 : Int)) fun x1 =>
  br (!x1) (
  some (2 : Int)) (
  bnd (access_within N Zb (1 : Int) (100 : Int)) fun x2 =>
  br (!x2) (
  some (2 : Int)) (
  bnd (access_within N Zi (1 : Int) (100 : Int)) fun x3 =>
  br (!x3) (
  some (2 : Int)) (
  bnd (access_within N Zh (1 : Int) (100 : Int)) fun x4 =>
  br (!x4) (
  some (2 : Int)) (
  bnd (access_within N Zg (1 : Int) (10 : Int)) fun x5 =>
  br (!x5) (
  some (2 : Int)) (
  bnd (access_within N Za (0 : Int) (1000 : Int)) fun x6 =>
  br (!x6) (
  some (2 : Int)) (
  bnd (access_within N Zd (1 : Int) (16 : Int)) fun x7 =>
  br (!x7) (
  some (2 : Int)) (
  K_ ())))))))

def base_CopyInts (N : Nat) (l : List Int) : Option (List Int) :=
  chk (([] : List Int).length + l.length ≤ 1000000000) <|
  some (([] : List Int) ++ l)

def access_phonesErr (N : Nat) (n : Int) : Option Int :=
  bnd (access_unless N (decide (n > (0 : Int))) (10 : Int)) fun x1 =>
  bnd (access_unless N (decide (n ≤ (8 : Int))) (8 : Int)) fun x2 =>
  bnd (access_first N ([x1, x2] : List Int)) fun x3 =>
  some x3

def slices_IndexFunc_ii.b1 (N : Nat) (s : List Int) (f : Int → Option Bool) (K_ : Unit → Option Int) (rec : Int → Option Int) : Int → Option Int := fun t8 =>
  br (decide (t8 < (s.length : Int))) (
  chk (0 ≤ t8 ∧ t8 < (s.length : Int)) <|
  bnd (f (s.getD t8.toNat 0)) fun x1 =>
  br (x1) (
  some t8) (
  rec (w64 (t8 + (1 : Int))))) (
  K_ ())
def slices_IndexFunc_ii (N : Nat) (s : List Int) (f : Int → Option Bool) : Option Int :=
  jn (τ := Unit) (fun (_ : Unit) =>
    some (-1 : Int)) fun K_ =>
  rds (slices_IndexFunc_ii.b1 N s f K_) N (0 : Int)

def slices_ContainsFunc_ii (N : Nat) (s : List Int) (f : Int → Option Bool) : Option Bool :=
  bnd (slices_IndexFunc_ii N s f) fun x1 =>
  some (decide (x1 ≥ (0 : Int)))

def access_isDraw (N : Nat) (n : Int) : Option Bool :=
  bnd (access_within N n (0 : Int) (998244352 : Int)) fun x1 =>
  some x1

def access_areDraws_1 (N : Nat) (n : Int) : Option Bool :=
  bnd (access_isDraw N n) fun x1 =>
  some (!x1)

def access_areDraws (N : Nat) (l : List Int) : Option Int :=
  bnd (slices_ContainsFunc_ii N l (fun y0 => access_areDraws_1 N y0)) fun x1 =>
  bnd (access_unless N (!x1) (2 : Int)) fun x2 =>
  some x2

def access_idle (N : Nat) (draw : Int) : Option (Int × Int × Int × Int × Int × Int × Int) :=
  some ((0 : Int), (-1 : Int), (0 : Int), (-1 : Int), (0 : Int), (0 : Int), draw)

def access_Begin.b1 (N : Nat) (draws : List Int) (K_ : (List (Int × Int × Int × Int × Int × Int × Int)) → Option (Int × (List (Int × Int × Int × Int × Int × Int × Int)) × Int)) (rec : Int × (List (Int × Int × Int × Int × Int × Int × Int)) → Option (Int × (List (Int × Int × Int × Int × Int × Int × Int)) × Int)) : Int × (List (Int × Int × Int × Int × Int × Int × Int)) → Option (Int × (List (Int × Int × Int × Int × Int × Int × Int)) × Int) := fun (t25, b41) =>
  br (decide (t25 < (draws.length : Int))) (
  chk (0 ≤ t25 ∧ t25 < (draws.length : Int)) <|
  bnd (access_idle N (draws.getD t25.toNat 0)) fun (x5, x51, x52, x53, x54, x55, x56) =>
  chk (b41.length + ([(x5, x51, x52, x53, x54, x55, x56)] : List (Int × Int × Int × Int × Int × Int × Int)).length ≤ 1000000000) <|
  rec (w64 (t25 + (1 : Int)), (b41 ++ ([(x5, x51, x52, x53, x54, x55, x56)] : List (Int × Int × Int × Int × Int × Int × Int))))) (
  K_ b41)
def access_Begin (N : Nat) (Zf : Int) (Zb : Int) (Zi : Int) (Zh : Int) (Zg : Int) (Za : Int) (Zd : Int) (draws : List Int) : Option (Int × (List (Int × Int × Int × Int × Int × Int × Int)) × Int) :=
  bnd (access_CheckRules N Zf Zb Zi Zh Zg Za Zd) fun x1 =>
  bnd (access_phonesErr N (draws.length : Int)) fun x2 =>
  bnd (access_areDraws N draws) fun x3 =>
  bnd (access_first N ([x1, x2, x3] : List Int)) fun x4 =>
  br ((x4 != (0 : Int))) (
  some ((0 : Int), ([] : List (Int × Int × Int × Int × Int × Int × Int)), x4)) (
  jn (τ := (List (Int × Int × Int × Int × Int × Int × Int))) (fun (b4 : (List (Int × Int × Int × Int × Int × Int × Int))) =>
    some ((0 : Int), b4, (0 : Int))) fun K_ =>
  rds (access_Begin.b1 N draws K_) N ((0 : Int), ([] : List (Int × Int × Int × Int × Int × Int × Int))))

def ref07_CheckRules (N : Nat) (Zf : Int) (Zb : Int) (Zi : Int) (Zh : Int) (Zg : Int) (Za : Int) (Zd : Int) : Option Int :=
  bnd (base_Within N Zf (1 : Int) (8 : Int)) fun x1 =>
  bnd (grd x1 false (base_Within N Zb (1 : Int) (100 : Int))) fun x2 =>
  bnd (grd (!((!x1) || (!x2))) false (base_Within N Zi (1 : Int) (100 : Int))) fun x3 =>
  bnd (grd (!(((!x1) || (!x2)) || (!x3))) false (base_Within N Zh (1 : Int) (100 : Int))) fun x4 =>
  bnd (grd (!((((!x1) || (!x2)) || (!x3)) || (!x4))) false (base_Within N Zg (1 : Int) (10 : Int))) fun x5 =>
  bnd (grd (!(((((!x1) || (!x2)) || (!x3)) || (!x4)) || (!x5))) false (base_Within N Za (0 : Int) (1000 : Int))) fun x6 =>
  bnd (grd (!((((((!x1) || (!x2)) || (!x3)) || (!x4)) || (!x5)) || (!x6))) false (base_Within N Zd (1 : Int) (16 : Int))) fun x7 =>
  br ((((((((!x1) || (!x2)) || (!x3)) || (!x4)) || (!x5)) || (!x6)) || (!x7))) (
  some (2 : Int)) (
  some (0 : Int))

def ref07_isDraw (N : Nat) (n : Int) : Option Bool :=
  bnd (base_Within N n (0 : Int) (998244352 : Int)) fun x1 =>
  some x1

def ref07_DrawsErr.b1 (N : Nat) (l : List Int) (K_ : Unit → Option Int) (rec : Int → Option Int) : Int → Option Int := fun i =>
  br (decide (i < (l.length : Int))) (
  chk (0 ≤ i ∧ i < (l.length : Int)) <|
  bnd (ref07_isDraw N (l.getD i.toNat 0)) fun x1 =>
  br (!x1) (
  some (2 : Int)) (
  rec (w64 (i + (1 : Int))))) (
  K_ ())
def ref07_DrawsErr (N : Nat) (l : List Int) : Option Int :=
  br (((l.length : Int) == (0 : Int))) (
  some (10 : Int)) (
  br (decide ((l.length : Int) > (8 : Int))) (
  some (8 : Int)) (
  jn (τ := Unit) (fun (_ : Unit) =>
    some (0 : Int)) fun K_ =>
  rds (ref07_DrawsErr.b1 N l K_) N (0 : Int)))

def ref07_Same.b1 (N : Nat) (Z1 : List (Int × Int × Int × Int × Int × Int × Int)) (Z5 : List (Int × Int × Int × Int × Int × Int × Int)) (K_ : Unit → Option Bool) (rec : Int → Option Bool) : Int → Option Bool := fun i =>
  br (decide (i < (Z1.length : Int))) (
  chk (0 ≤ i ∧ i < (Z1.length : Int)) <|
  chk (0 ≤ i ∧ i < (Z5.length : Int)) <|
  br (!(((Z1.getD i.toNat default).1 == (Z5.getD i.toNat default).1) && (((Z1.getD i.toNat default).2.1 == (Z5.getD i.toNat default).2.1) && (((Z1.getD i.toNat default).2.2.1 == (Z5.getD i.toNat default).2.2.1) && (((Z1.getD i.toNat default).2.2.2.1 == (Z5.getD i.toNat default).2.2.2.1) && (((Z1.getD i.toNat default).2.2.2.2.1 == (Z5.getD i.toNat default).2.2.2.2.1) && (((Z1.getD i.toNat default).2.2.2.2.2.1 == (Z5.getD i.toNat default).2.2.2.2.2.1) && ((Z1.getD i.toNat default).2.2.2.2.2.2 == (Z5.getD i.toNat default).2.2.2.2.2.2)))))))) (
  some false) (
  rec (w64 (i + (1 : Int))))) (
  K_ ())
def ref07_Same (N : Nat) (Z0 : Int) (Z1 : List (Int × Int × Int × Int × Int × Int × Int)) (Z4 : Int) (Z5 : List (Int × Int × Int × Int × Int × Int × Int)) : Option Bool :=
  br (((Z0 != Z4) || ((Z1.length : Int) != (Z5.length : Int)))) (
  some false) (
  jn (τ := Unit) (fun (_ : Unit) =>
    some true) fun K_ =>
  rds (ref07_Same.b1 N Z1 Z5 K_) N (0 : Int))

def ref07_plain (N : Nat) (stage : Int) (draw : Int) : Option (Int × Int × Int × Int × Int × Int × Int) :=
  some (stage, (-1 : Int), (0 : Int), (-1 : Int), (0 : Int), (0 : Int), draw)

def ref07_Begin.b1 (N : Nat) (draws : List Int) (K_ : (List (Int × Int × Int × Int × Int × Int × Int)) → Option (Int × (List (Int × Int × Int × Int × Int × Int × Int)))) (rec : Int × (List (Int × Int × Int × Int × Int × Int × Int)) → Option (Int × (List (Int × Int × Int × Int × Int × Int × Int)))) : Int × (List (Int × Int × Int × Int × Int × Int × Int)) → Option (Int × (List (Int × Int × Int × Int × Int × Int × Int))) := fun (i, b21) =>
  br (decide (i < (draws.length : Int))) (
  chk (0 ≤ i ∧ i < (draws.length : Int)) <|
  bnd (ref07_plain N (0 : Int) (draws.getD i.toNat 0)) fun (x1, x11, x12, x13, x14, x15, x16) =>
  chk (b21.length + ([(x1, x11, x12, x13, x14, x15, x16)] : List (Int × Int × Int × Int × Int × Int × Int)).length ≤ 1000000000) <|
  rec (w64 (i + (1 : Int)), (b21 ++ ([(x1, x11, x12, x13, x14, x15, x16)] : List (Int × Int × Int × Int × Int × Int × Int))))) (
  K_ b21)
def ref07_Begin (N : Nat) (draws : List Int) : Option (Int × (List (Int × Int × Int × Int × Int × Int × Int))) :=
  jn (τ := (List (Int × Int × Int × Int × Int × Int × Int))) (fun (b2 : (List (Int × Int × Int × Int × Int × Int × Int))) =>
    some ((0 : Int), b2)) fun K_ =>
  rds (ref07_Begin.b1 N draws K_) N ((0 : Int), ([] : List (Int × Int × Int × Int × Int × Int × Int)))

def law07_AccessBegins (N : Nat) (Zf : Int) (Zb : Int) (Zi : Int) (Zh : Int) (Zg : Int) (Za : Int) (Zd : Int) (draws : List Int) : Option Bool :=
  bnd (law07_awake N ) fun x1 =>
  br (!x1) (
  some false) (
  br (decide ((draws.length : Int) > (10 : Int))) (
  some true) (
  bnd (access_CheckRules N Zf Zb Zi Zh Zg Za Zd) fun x2 =>
  bnd (base_CopyInts N draws) fun x3 =>
  bnd (access_Begin N Zf Zb Zi Zh Zg Za Zd x3) fun (x4, x41, x42) =>
  bnd (ref07_CheckRules N Zf Zb Zi Zh Zg Za Zd) fun x5 =>
  br ((x2 != x5)) (
  some false) (
  jn (τ := Int) (fun (d : Int) =>
    br ((d != (0 : Int))) (
    bnd (grd (x42 == d) false (ref07_Same N x4 x41 (0 : Int) ([] : List (Int × Int × Int × Int × Int × Int × Int)))) fun x7 =>
    some ((x42 == d) && x7)) (
    bnd (grd (x42 == (0 : Int)) default (ref07_Begin N draws)) fun (x8, x81) =>
    bnd (grd (x42 == (0 : Int)) false (ref07_Same N x4 x41 x8 x81)) fun x9 =>
    some ((x42 == (0 : Int)) && x9))) fun K_ =>
  br ((x5 == (0 : Int))) (
  bnd (ref07_DrawsErr N draws) fun x6 =>
  K_ x6) (
  K_ x5))))
end
end Go.Sh
