import Derived.Test.YtbndgoeahoadlaaGreatDoorAsH
import Derived.Test.YtbndgoeahoadlaaGreatDoorPwG5
set_option linter.all false
namespace Go.Sh
open Go.PW
noncomputable section
def access_within (N : Nat) (n : Int) (lo : Int) (hi : Int) : Option Bool :=
  some ((decide (lo ≤ n)) && (decide (n ≤ hi)))

def access_unless (N : Nat) (is_ : Bool) (e : Int) : Option Int :=
  br (is_) (
  some (0 : Int)) (
  some e)

def access_CheckSleep (N : Nat) (Zc : Int) (Zf : Int) (Ze : Int) (Zd : Int) : Option Int :=
  bnd (access_within N Zc (1 : Int) (20480 : Int)) fun x1 =>
  bnd (grd x1 false (access_within N Zf (0 : Int) (w64 (Zc - (1 : Int))))) fun x2 =>
  bnd (grd (x1 && x2) false (access_within N Ze (1 : Int) Zc)) fun x3 =>
  bnd (grd ((x1 && x2) && x3) false (access_within N Zd (0 : Int) (20480 : Int))) fun x4 =>
  bnd (access_unless N (((x1 && x2) && x3) && x4) (2 : Int)) fun x5 =>
  some x5

def access_isTick (N : Nat) (n : Int) : Option Bool :=
  bnd (access_within N n (0 : Int) (1000000000 : Int)) fun x1 =>
  some x1

def access_tickErr (N : Nat) (n : Int) : Option Int :=
  bnd (access_isTick N n) fun x1 =>
  bnd (access_unless N x1 (2 : Int)) fun x2 =>
  some x2

def access_first.b1 (N : Nat) (l : List Int) (K_ : Unit → Option Int) (rec : Int → Option Int) : Int → Option Int := fun t7 =>
  br (decide (t7 < (l.length : Int))) (
  chk (0 ≤ t7 ∧ t7 < (l.length : Int)) <|
  br (((l.getD t7.toNat 0) != (0 : Int))) (
  some (l.getD t7.toNat 0)) (
  rec (w64 (t7 + (1 : Int))))) (
  K_ ())
def access_first (N : Nat) (l : List Int) : Option Int :=
  jn (τ := Unit) (fun (_ : Unit) =>
    some (0 : Int)) fun K_ =>
  rds (access_first.b1 N l K_) N (0 : Int)

def access_sleep_since (N : Nat) (Z8 : Int) (Zb : Int) (Za : Int) (Z9 : Int) (tick : Int) : Option Int :=
  chk (Z8 ≠ 0) <|
  chk (Z8 ≠ 0) <|
  some ((w64 ((w64 ((tick.tmod Z8) + Z8)) - Zb)).tmod Z8)

def access_sleep_on (N : Nat) (Z8 : Int) (Zb : Int) (Za : Int) (Z9 : Int) (tick : Int) : Option Bool :=
  bnd (access_sleep_since N Z8 Zb Za Z9 tick) fun x1 =>
  some (decide (x1 < Za))

def access_NextAwake (N : Nat) (Zc : Int) (Zf : Int) (Ze : Int) (Zd : Int) (tick : Int) : Option (Int × Int) :=
  bnd (access_CheckSleep N Zc Zf Ze Zd) fun x1 =>
  bnd (access_tickErr N tick) fun x2 =>
  bnd (access_first N ([x1, x2] : List Int)) fun x3 =>
  br ((x3 != (0 : Int))) (
  some ((0 : Int), x3)) (
  bnd (access_sleep_on N Zc Zf Ze Zd tick) fun x4 =>
  br (x4) (
  some (tick, (0 : Int))) (
  bnd (access_sleep_since N Zc Zf Ze Zd tick) fun x5 =>
  some (w64 ((w64 (tick + Zc)) - x5), (0 : Int))))

def access_ticksErr (N : Nat) (Z7 : Int) (Z6 : Int) : Option Int :=
  bnd (access_tickErr N Z7) fun x1 =>
  bnd (access_tickErr N Z6) fun x2 =>
  bnd (access_unless N (decide (Z7 ≤ Z6)) (9 : Int)) fun x3 =>
  bnd (access_first N ([x1, x2, x3] : List Int)) fun x4 =>
  some x4

def access_sleep_before.b1 (N : Nat) (Z8 : Int) (Zb : Int) (Za : Int) (Z9 : Int) (tick : Int) (K_ : Int → Option Int) (rec : Int × Int → Option Int) : Int × Int → Option Int := fun (n1, t21) =>
  br (decide (t21 < tick.tmod Z8)) (
  bnd (access_sleep_on N Z8 Zb Za Z9 t21) fun x1 =>
  br (x1) (
  rec (w64 (n1 + (1 : Int)), w64 (t21 + (1 : Int)))) (
  rec (n1, w64 (t21 + (1 : Int))))) (
  K_ n1)
def access_sleep_before (N : Nat) (Z8 : Int) (Zb : Int) (Za : Int) (Z9 : Int) (tick : Int) : Option Int :=
  chk (Z8 ≠ 0) <|
  jn (τ := Int) (fun (n : Int) =>
    some n) fun K_ =>
  chk (Z8 ≠ 0) <|
  rds (access_sleep_before.b1 N Z8 Zb Za Z9 tick K_) N (w64 ((w64 (tick.tdiv Z8)) * Za), (0 : Int))

def access_sleep_awakeIn (N : Nat) (Z8 : Int) (Zb : Int) (Za : Int) (Z9 : Int) (Z7 : Int) (Z6 : Int) : Option Int :=
  bnd (access_sleep_before N Z8 Zb Za Z9 (w64 (Z6 + (1 : Int)))) fun x1 =>
  bnd (access_sleep_before N Z8 Zb Za Z9 Z7) fun x2 =>
  some (w64 (x1 - x2))

def access_AwakeIn (N : Nat) (Zc : Int) (Zf : Int) (Ze : Int) (Zd : Int) (Zh : Int) (Zg : Int) : Option (Int × Int) :=
  bnd (access_CheckSleep N Zc Zf Ze Zd) fun x1 =>
  bnd (access_ticksErr N Zh Zg) fun x2 =>
  bnd (access_first N ([x1, x2] : List Int)) fun x3 =>
  br ((x3 != (0 : Int))) (
  some ((0 : Int), x3)) (
  bnd (access_sleep_awakeIn N Zc Zf Ze Zd Zh Zg) fun x4 =>
  some (x4, (0 : Int)))

def access_EnergyOf_1 (N : Nat) (n : Int) : Option Bool :=
  bnd (access_within N n (0 : Int) (1000 : Int)) fun x1 =>
  some x1

def access_sleep_wakes (N : Nat) (Z8 : Int) (Zb : Int) (Za : Int) (Z9 : Int) (Z7 : Int) (Z6 : Int) : Option Int :=
  jn (τ := Int) (fun (n : Int) =>
    br ((Za == Z8)) (
    some n) (
    bnd (access_sleep_since N Z8 Zb Za Z9 Z7) fun x2 =>
    br (decide (w64 ((w64 (Z7 + Z8)) - x2) ≤ Z6)) (
    chk (Z8 ≠ 0) <|
    some (w64 (n + (w64 ((w64 ((w64 (Z6 - (w64 ((w64 (Z7 + Z8)) - x2)))).tdiv Z8)) + (1 : Int)))))) (
    some n))) fun K_ =>
  bnd (access_sleep_on N Z8 Zb Za Z9 Z7) fun x1 =>
  br (x1) (
  K_ (1 : Int)) (
  K_ (0 : Int))

def access_EnergyOf (N : Nat) (Zc : Int) (Zf : Int) (Ze : Int) (Zd : Int) (Zh : Int) (Zg : Int) (Zj : Int) (Zi : Int) (Zt : Int) : Option (Int × Int) :=
  bnd (access_CheckSleep N Zc Zf Ze Zd) fun x1 =>
  bnd (access_ticksErr N Zh Zg) fun x2 =>
  bnd (access_EnergyOf_1 N Zj) fun x3 =>
  bnd (grd x3 false (access_EnergyOf_1 N Zi)) fun x4 =>
  bnd (grd (x3 && x4) false (access_EnergyOf_1 N Zt)) fun x5 =>
  bnd (access_unless N ((x3 && x4) && x5) (2 : Int)) fun x6 =>
  bnd (access_first N ([x1, x2, x6] : List Int)) fun x7 =>
  br ((x7 != (0 : Int))) (
  some ((0 : Int), x7)) (
  bnd (access_sleep_awakeIn N Zc Zf Ze Zd Zh Zg) fun x8 =>
  bnd (access_sleep_wakes N Zc Zf Ze Zd Zh Zg) fun x9 =>
  some (w64 ((w64 ((w64 (x8 * Zj)) + (w64 ((w64 ((w64 ((w64 (Zg - Zh)) + (1 : Int))) - x8)) * Zi)))) + (w64 (x9 * Zt))), (0 : Int)))

def base_Within (N : Nat) (n : Int) (lo : Int) (hi : Int) : Option Bool :=
  some ((decide (lo ≤ n)) && (decide (n ≤ hi)))

def ref07_CheckSleep (N : Nat) (Zc : Int) (Zf : Int) (Ze : Int) (Zd : Int) : Option Int :=
  bnd (base_Within N Zc (1 : Int) (20480 : Int)) fun x1 =>
  bnd (grd x1 false (base_Within N Zf (0 : Int) (w64 (Zc - (1 : Int))))) fun x2 =>
  bnd (grd (!((!x1) || (!x2))) false (base_Within N Ze (1 : Int) Zc)) fun x3 =>
  bnd (grd (!(((!x1) || (!x2)) || (!x3))) false (base_Within N Zd (0 : Int) (20480 : Int))) fun x4 =>
  br (((((!x1) || (!x2)) || (!x3)) || (!x4))) (
  some (2 : Int)) (
  some (0 : Int))

def ref07_PowersErr (N : Nat) (Zj : Int) (Zi : Int) (Zt : Int) : Option Int :=
  bnd (base_Within N Zj (0 : Int) (1000 : Int)) fun x1 =>
  bnd (grd x1 false (base_Within N Zi (0 : Int) (1000 : Int))) fun x2 =>
  bnd (grd (!((!x1) || (!x2))) false (base_Within N Zt (0 : Int) (1000 : Int))) fun x3 =>
  br ((((!x1) || (!x2)) || (!x3))) (
  some (2 : Int)) (
  some (0 : Int))

def law07_AccessSums (N : Nat) (Zc : Int) (Zf : Int) (Ze : Int) (Zd : Int) (cuts_0 : Int) (cuts_1 : Int) (cuts_2 : Int) (Zj : Int) (Zi : Int) (Zt : Int) : Option Bool :=
  bnd (law07_awake N ) fun x1 =>
  br (!x1) (
  some false) (
  bnd (ref07_CheckSleep N Zc Zf Ze Zd) fun x2 =>
  bnd (grd (!(x2 != (0 : Int))) 0 (ref07_PowersErr N Zj Zi Zt)) fun x3 =>
  bnd (grd (!((x2 != (0 : Int)) || (x3 != (0 : Int)))) false (base_Within N cuts_0 (0 : Int) cuts_1)) fun x4 =>
  bnd (grd (!(((x2 != (0 : Int)) || (x3 != (0 : Int))) || (!x4))) false (base_Within N cuts_2 (0 : Int) (1000000000 : Int))) fun x5 =>
  br ((((((x2 != (0 : Int)) || (x3 != (0 : Int))) || (!x4)) || (!x5)) || (decide (cuts_1 ≥ cuts_2)))) (
  some true) (
  bnd (access_AwakeIn N Zc Zf Ze Zd cuts_0 cuts_1) fun (x6, x61) =>
  bnd (access_AwakeIn N Zc Zf Ze Zd (w64 (cuts_1 + (1 : Int))) cuts_2) fun (x7, x71) =>
  bnd (access_AwakeIn N Zc Zf Ze Zd cuts_0 cuts_2) fun (x8, x81) =>
  bnd (access_EnergyOf N Zc Zf Ze Zd cuts_0 cuts_1 Zj Zi Zt) fun (x9, x91) =>
  bnd (access_EnergyOf N Zc Zf Ze Zd (w64 (cuts_1 + (1 : Int))) cuts_2 Zj Zi Zt) fun (x10, x101) =>
  bnd (access_EnergyOf N Zc Zf Ze Zd cuts_0 cuts_2 Zj Zi Zt) fun (x11, x111) =>
  br (((((((x61 != (0 : Int)) || (x71 != (0 : Int))) || (x81 != (0 : Int))) || (x91 != (0 : Int))) || (x101 != (0 : Int))) || (x111 != (0 : Int)))) (
  some false) (
  br (((w64 (x6 + x7) != x8) || ((w64 (x9 + x10) != x11) && (w64 (x9 + x10) != w64 (x11 + Zt))))) (
  some false) (
  bnd (access_NextAwake N Zc Zf Ze Zd (w64 (cuts_1 + (1 : Int)))) fun (x12, x121) =>
  br ((((x121 != (0 : Int)) || (decide (x12 ≤ cuts_1))) || (decide (x12 > w64 (cuts_1 + Zc))))) (
  some false) (
  br (decide (x12 > cuts_2)) (
  some (x7 == (0 : Int))) (
  bnd (access_AwakeIn N Zc Zf Ze Zd (w64 (cuts_1 + (1 : Int))) x12) fun (x13, x131) =>
  some ((x131 == (0 : Int)) && (x13 == (1 : Int)))))))))

end
end Go.Sh
