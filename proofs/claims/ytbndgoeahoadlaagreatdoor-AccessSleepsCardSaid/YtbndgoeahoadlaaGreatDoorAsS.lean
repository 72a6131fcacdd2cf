import Derived.Test.YtbndgoeahoadlaaGreatDoorAsH
import Derived.Test.YtbndgoeahoadlaaGreatDoorPwG5
set_option linter.all false
namespace Go.Sh
open Go.PW
noncomputable section
def access_within (N : Nat) (n : Int) (lo : Int) (hi : Int) : Option Bool :=
  some ((decide (lo ≤ n)) && (decide (n ≤ hi)))

def access_unless (N : Nat) (is_ : Bool) (e : Int) : Option Int :=
  br (is_) (
  some (0 : Int)) (
  some e)

def access_CheckSleep (N : Nat) (Zc : Int) (Zf : Int) (Ze : Int) (Zd : Int) : Option Int :=
  bnd (access_within N Zc (1 : Int) (20480 : Int)) fun x1 =>
  bnd (grd x1 false (access_within N Zf (0 : Int) (w64 (Zc - (1 : Int))))) fun x2 =>
  bnd (grd (x1 && x2) false (access_within N Ze (1 : Int) Zc)) fun x3 =>
  bnd (grd ((x1 && x2) && x3) false (access_within N Zd (0 : Int) (20480 : Int))) fun x4 =>
  bnd (access_unless N (((x1 && x2) && x3) && x4) (2 : Int)) fun x5 =>
  some x5

def access_isTick (N : Nat) (n : Int) : Option Bool :=
  bnd (access_within N n (0 : Int) (1000000000 : Int)) fun x1 =>
  some x1

def access_tickErr (N : Nat) (n : Int) : Option Int :=
  bnd (access_isTick N n) fun x1 =>
  bnd (access_unless N x1 (2 : Int)) fun x2 =>
  some x2

def access_first.b1 (N : Nat) (l : List Int) (K_ : Unit → Option Int) (rec : Int → Option Int) : Int → Option Int := fun t7 =>
  br (decide (t7 < (l.length : Int))) (
  chk (0 ≤ t7 ∧ t7 < (l.length : Int)) <|
  br (((l.getD t7.toNat 0) != (0 : Int))) (
  some (l.getD t7.toNat 0)) (
  rec (w64 (t7 + (1 : Int))))) (
  K_ ())
def access_first (N : Nat) (l : List Int) : Option Int :=
  jn (τ := Unit) (fun (_ : Unit) =>
    some (0 : Int)) fun K_ =>
  rds (access_first.b1 N l K_) N (0 : Int)

def access_sleep_since (N : Nat) (Z8 : Int) (Zb : Int) (Za : Int) (Z9 : Int) (tick : Int) : Option Int :=
  chk (Z8 ≠ 0) <|
  chk (Z8 ≠ 0) <|
  some ((w64 ((w64 ((tick.tmod Z8) + Z8)) - Zb)).tmod Z8)

def access_sleep_on (N : Nat) (Z8 : Int) (Zb : Int) (Za : Int) (Z9 : Int) (tick : Int) : Option Bool :=
  bnd (access_sleep_since N Z8 Zb Za Z9 tick) fun x1 =>
  some (decide (x1 < Za))

def access_AwakeAt (N : Nat) (Zc : Int) (Zf : Int) (Ze : Int) (Zd : Int) (tick : Int) (last : Int) : Option (Bool × Int) :=
  bnd (access_CheckSleep N Zc Zf Ze Zd) fun x1 =>
  bnd (access_tickErr N tick) fun x2 =>
  bnd (grd (!(last == (-1 : Int))) false (access_isTick N last)) fun x3 =>
  bnd (access_unless N ((last == (-1 : Int)) || x3) (2 : Int)) fun x4 =>
  bnd (access_first N ([x1, x2, x4] : List Int)) fun x5 =>
  br ((x5 != (0 : Int))) (
  some (false, x5)) (
  bnd (grd (last != (-1 : Int)) false (access_within N (w64 (tick - last)) (0 : Int) (w64 (Zd - (1 : Int))))) fun x6 =>
  bnd (grd (!((last != (-1 : Int)) && x6)) false (access_sleep_on N Zc Zf Ze Zd tick)) fun x7 =>
  some ((((last != (-1 : Int)) && x6) || x7), (0 : Int)))

def access_NextAwake (N : Nat) (Zc : Int) (Zf : Int) (Ze : Int) (Zd : Int) (tick : Int) : Option (Int × Int) :=
  bnd (access_CheckSleep N Zc Zf Ze Zd) fun x1 =>
  bnd (access_tickErr N tick) fun x2 =>
  bnd (access_first N ([x1, x2] : List Int)) fun x3 =>
  br ((x3 != (0 : Int))) (
  some ((0 : Int), x3)) (
  bnd (access_sleep_on N Zc Zf Ze Zd tick) fun x4 =>
  br (x4) (
  some (tick, (0 : Int))) (
  bnd (access_sleep_since N Zc Zf Ze Zd tick) fun x5 =>
  some (w64 ((w64 (tick + Zc)) - x5), (0 : Int))))

def access_ticksErr (N : Nat) (Z7 : Int) (Z6 : Int) : Option Int :=
  bnd (access_tickErr N Z7) fun x1 =>
  bnd (access_tickErr N Z6) fun x2 =>
  bnd (access_unless N (decide (Z7 ≤ Z6)) (9 : Int)) fun x3 =>
  bnd (access_first N ([x1, x2, x3] : List Int)) fun x4 =>
  some x4

def access_sleep_before.b1 (N : Nat) (Z8 : Int) (Zb : Int) (Za : Int) (Z9 : Int) (tick : Int) (K_ : Int → Option Int) (rec : Int × Int → Option Int) : Int × Int → Option Int := fun (n1, t21) =>
  br (decide (t21 < tick.tmod Z8)) (
  bnd (access_sleep_on N Z8 Zb Za Z9 t21) fun x1 =>
  br (x1) (
  rec (w64 (n1 + (1 : Int)), w64 (t21 + (1 : Int)))) (
  rec (n1, w64 (t21 + (1 : Int))))) (
  K_ n1)
def access_sleep_before (N : Nat) (Z8 : Int) (Zb : Int) (Za : Int) (Z9 : Int) (tick : Int) : Option Int :=
  chk (Z8 ≠ 0) <|
  jn (τ := Int) (fun (n : Int) =>
    some n) fun K_ =>
  chk (Z8 ≠ 0) <|
  rds (access_sleep_before.b1 N Z8 Zb Za Z9 tick K_) N (w64 ((w64 (tick.tdiv Z8)) * Za), (0 : Int))

def access_sleep_awakeIn (N : Nat) (Z8 : Int) (Zb : Int) (Za : Int) (Z9 : Int) (Z7 : Int) (Z6 : Int) : Option Int :=
  bnd (access_sleep_before N Z8 Zb Za Z9 (w64 (Z6 + (1 : Int)))) fun x1 =>
  bnd (access_sleep_before N Z8 Zb Za Z9 Z7) fun x2 =>
  some (w64 (x1 - x2))

def access_AwakeIn (N : Nat) (Zc : Int) (Zf : Int) (Ze : Int) (Zd : Int) (Zh : Int) (Zg : Int) : Option (Int × Int) :=
  bnd (access_CheckSleep N Zc Zf Ze Zd) fun x1 =>
  bnd (access_ticksErr N Zh Zg) fun x2 =>
  bnd (access_first N ([x1, x2] : List Int)) fun x3 =>
  br ((x3 != (0 : Int))) (
  some ((0 : Int), x3)) (
  bnd (access_sleep_awakeIn N Zc Zf Ze Zd Zh Zg) fun x4 =>
  some (x4, (0 : Int)))

def access_EnergyOf_1 (N : Nat) (n : Int) : Option Bool :=
  bnd (access_within N n (0 : Int) (1000 : Int)) fun x1 =>
  some x1

def access_sleep_wakes (N : Nat) (Z8 : Int) (Zb : Int) (Za : Int) (Z9 : Int) (Z7 : Int) (Z6 : Int) : Option Int :=
  jn (τ := Int) (fun (n : Int) =>
    br ((Za == Z8)) (
    some n) (
    bnd (access_sleep_since N Z8 Zb Za Z9 Z7) fun x2 =>
    br (decide (w64 ((w64 (Z7 + Z8)) - x2) ≤ Z6)) (
    chk (Z8 ≠ 0) <|
    some (w64 (n + (w64 ((w64 ((w64 (Z6 - (w64 ((w64 (Z7 + Z8)) - x2)))).tdiv Z8)) + (1 : Int)))))) (
    some n))) fun K_ =>
  bnd (access_sleep_on N Z8 Zb Za Z9 Z7) fun x1 =>
  br (x1) (
  K_ (1 : Int)) (
  K_ (0 : Int))

def access_EnergyOf (N : Nat) (Zc : Int) (Zf : Int) (Ze : Int) (Zd : Int) (Zh : Int) (Zg : Int) (Zj : Int) (Zi : Int) (Zt : Int) : Option (Int × Int) :=
  bnd (access_CheckSleep N Zc Zf Ze Zd) fun x1 =>
  bnd (access_ticksErr N Zh Zg) fun x2 =>
  bnd (access_EnergyOf_1 N Zj) fun x3 =>
  bnd (grd x3 false (access_EnergyOf_1 N Zi)) fun x4 =>
  bnd (grd (x3 && x4) false (access_EnergyOf_1 N Zt)) fun x5 =>
  bnd (access_unless N ((x3 && x4) && x5) (2 : Int)) fun x6 =>
  bnd (access_first N ([x1, x2, x6] : List Int)) fun x7 =>
  br ((x7 != (0 : Int))) (
  some ((0 : Int), x7)) (
  bnd (access_sleep_awakeIn N Zc Zf Ze Zd Zh Zg) fun x8 =>
  bnd (access_sleep_wakes N Zc Zf Ze Zd Zh Zg) fun x9 =>
  some (w64 ((w64 ((w64 (x8 * Zj)) + (w64 ((w64 ((w64 ((w64 (Zg - Zh)) + (1 : Int))) - x8)) * Zi)))) + (w64 (x9 * Zt))), (0 : Int)))

def base_Within (N : Nat) (n : Int) (lo : Int) (hi : Int) : Option Bool :=
  some ((decide (lo ≤ n)) && (decide (n ≤ hi)))

def ref07_CheckSleep (N : Nat) (Zc : Int) (Zf : Int) (Ze : Int) (Zd : Int) : Option Int :=
  bnd (base_Within N Zc (1 : Int) (20480 : Int)) fun x1 =>
  bnd (grd x1 false (base_Within N Zf (0 : Int) (w64 (Zc - (1 : Int))))) fun x2 =>
  bnd (grd (!((!x1) || (!x2))) false (base_Within N Ze (1 : Int) Zc)) fun x3 =>
  bnd (grd (!(((!x1) || (!x2)) || (!x3))) false (base_Within N Zd (0 : Int) (20480 : Int))) fun x4 =>
  br (((((!x1) || (!x2)) || (!x3)) || (!x4))) (
  some (2 : Int)) (
  some (0 : Int))

def ref07_TickErr (N : Nat) (n : Int) : Option Int :=
  bnd (base_Within N n (0 : Int) (1000000000 : Int)) fun x1 =>
  br (!x1) (
  some (2 : Int)) (
  some (0 : Int))

def base_Mod (N : Nat) (n : Int) (by_ : Int) : Option Int :=
  chk (by_ ≠ 0) <|
  br (decide (n.tmod by_ < (0 : Int))) (
  some (w64 ((n.tmod by_) + by_))) (
  some (n.tmod by_))

def ref07_On (N : Nat) (Zc : Int) (Zf : Int) (Ze : Int) (Zd : Int) (tick : Int) : Option Bool :=
  bnd (base_Mod N (w64 (tick - Zf)) Zc) fun x1 =>
  some (decide (x1 < Ze))

def ref07_NextAwake.b1 (N : Nat) (Zc : Int) (Zf : Int) (Ze : Int) (Zd : Int) (K_ : Int → Option Int) (rec : Int → Option Int) : Int → Option Int := fun tick2 =>
  bnd (ref07_On N Zc Zf Ze Zd tick2) fun x1 =>
  br (!x1) (
  rec (w64 (tick2 + (1 : Int)))) (
  K_ tick2)
def ref07_NextAwake (N : Nat) (Zc : Int) (Zf : Int) (Ze : Int) (Zd : Int) (tick : Int) : Option Int :=
  jn (τ := Int) (fun (tick1 : Int) =>
    some tick1) fun K_ =>
  rds (ref07_NextAwake.b1 N Zc Zf Ze Zd K_) N tick

def ref07_AwakeAt (N : Nat) (Zc : Int) (Zf : Int) (Ze : Int) (Zd : Int) (tick : Int) (last : Int) : Option Bool :=
  bnd (ref07_On N Zc Zf Ze Zd tick) fun x1 =>
  bnd (grd ((!x1) && (last != (-1 : Int))) false (base_Within N (w64 (tick - last)) (0 : Int) (w64 (Zd - (1 : Int))))) fun x2 =>
  some (x1 || ((last != (-1 : Int)) && x2))

def ref07_TicksErr (N : Nat) (Z7 : Int) (Z6 : Int) : Option Int :=
  bnd (ref07_TickErr N Z7) fun x1 =>
  bnd (grd (!(x1 != (0 : Int))) 0 (ref07_TickErr N Z6)) fun x2 =>
  br (((x1 != (0 : Int)) || (x2 != (0 : Int)))) (
  some (2 : Int)) (
  br (decide (Z7 > Z6)) (
  some (9 : Int)) (
  some (0 : Int)))

def ref07_AwakeIn.b1 (N : Nat) (Zc : Int) (Zf : Int) (Ze : Int) (Zd : Int) (Z6 : Int) (K_ : Int → Option Int) (rec : Int × Int → Option Int) : Int × Int → Option Int := fun (on1, tick) =>
  br (decide (tick ≤ Z6)) (
  bnd (ref07_On N Zc Zf Ze Zd tick) fun x1 =>
  br (x1) (
  rec (w64 (on1 + (1 : Int)), w64 (tick + (1 : Int)))) (
  rec (on1, w64 (tick + (1 : Int))))) (
  K_ on1)
def ref07_AwakeIn (N : Nat) (Zc : Int) (Zf : Int) (Ze : Int) (Zd : Int) (Z7 : Int) (Z6 : Int) : Option Int :=
  chk (Zc ≠ 0) <|
  jn (τ := Int) (fun (on : Int) =>
    some on) fun K_ =>
  rds (ref07_AwakeIn.b1 N Zc Zf Ze Zd Z6 K_) N (w64 ((w64 ((w64 (Z6 - Z7)).tdiv Zc)) * Ze), w64 (Z7 + (w64 ((w64 ((w64 (Z6 - Z7)).tdiv Zc)) * Zc))))

def ref07_PowersErr (N : Nat) (Zj : Int) (Zi : Int) (Zt : Int) : Option Int :=
  bnd (base_Within N Zj (0 : Int) (1000 : Int)) fun x1 =>
  bnd (grd x1 false (base_Within N Zi (0 : Int) (1000 : Int))) fun x2 =>
  bnd (grd (!((!x1) || (!x2))) false (base_Within N Zt (0 : Int) (1000 : Int))) fun x3 =>
  br ((((!x1) || (!x2)) || (!x3))) (
  some (2 : Int)) (
  some (0 : Int))

def base_Floor (N : Nat) (n : Int) (by_ : Int) : Option Int :=
  chk (by_ ≠ 0) <|
  chk (by_ ≠ 0) <|
  br (decide (n.tmod by_ < (0 : Int))) (
  some (w64 ((w64 (n.tdiv by_)) - (1 : Int)))) (
  some (w64 (n.tdiv by_)))

def ref07_wakes (N : Nat) (Zc : Int) (Zf : Int) (Ze : Int) (Zd : Int) (Z7 : Int) (Z6 : Int) : Option Int :=
  jn (τ := Int) (fun (n : Int) =>
    br (decide (Ze < Zc)) (
    bnd (base_Floor N (w64 (Z6 - Zf)) Zc) fun x2 =>
    bnd (base_Floor N (w64 (Z7 - Zf)) Zc) fun x3 =>
    some (w64 ((w64 (n + x2)) - x3))) (
    some n)) fun K_ =>
  bnd (ref07_On N Zc Zf Ze Zd Z7) fun x1 =>
  br (x1) (
  K_ (1 : Int)) (
  K_ (0 : Int))

def ref07_EnergyOf (N : Nat) (Zc : Int) (Zf : Int) (Ze : Int) (Zd : Int) (Z7 : Int) (Z6 : Int) (Zj : Int) (Zi : Int) (Zt : Int) : Option Int :=
  bnd (ref07_AwakeIn N Zc Zf Ze Zd Z7 Z6) fun x1 =>
  bnd (ref07_wakes N Zc Zf Ze Zd Z7 Z6) fun x2 =>
  some (w64 ((w64 ((w64 (x1 * Zj)) + (w64 ((w64 ((w64 ((w64 (Z6 - Z7)) + (1 : Int))) - x1)) * Zi)))) + (w64 (x2 * Zt))))

def law07_AccessSleeps (N : Nat) (Zc : Int) (Zf : Int) (Ze : Int) (Zd : Int) (Zq : Int) (Zl : Int) (Zs : Int) (Zr : Int) (Zn : Int) (Zm : Int) (Zo : Int) : Option Bool :=
  bnd (law07_awake N ) fun x1 =>
  br (!x1) (
  some false) (
  bnd (access_CheckSleep N Zc Zf Ze Zd) fun x2 =>
  bnd (access_AwakeAt N Zc Zf Ze Zd Zq Zl) fun (x3, x31) =>
  bnd (access_NextAwake N Zc Zf Ze Zd Zq) fun (x4, x41) =>
  bnd (access_AwakeIn N Zc Zf Ze Zd Zs Zr) fun (x5, x51) =>
  bnd (access_EnergyOf N Zc Zf Ze Zd Zs Zr Zn Zm Zo) fun (x6, x61) =>
  bnd (ref07_CheckSleep N Zc Zf Ze Zd) fun x7 =>
  br ((x2 != x7)) (
  some false) (
  br ((x7 != (0 : Int))) (
  some ((((((((x31 == x7) && (x41 == x7)) && (x51 == x7)) && (x61 == x7)) && (!x3)) && (x4 == (0 : Int))) && (x5 == (0 : Int))) && (x6 == (0 : Int)))) (
  jn (τ := Unit) (fun (_ : Unit) =>
    bnd (ref07_TicksErr N Zs Zr) fun x12 =>
    br ((x12 != (0 : Int))) (
    some ((((x51 == x12) && (x61 == x12)) && (x5 == (0 : Int))) && (x6 == (0 : Int)))) (
    bnd (grd (!(x51 != (0 : Int))) 0 (ref07_AwakeIn N Zc Zf Ze Zd Zs Zr)) fun x13 =>
    br (((x51 != (0 : Int)) || (x5 != x13))) (
    some false) (
    bnd (ref07_PowersErr N Zn Zm Zo) fun x14 =>
    br ((x14 != (0 : Int))) (
    some ((x61 == x14) && (x6 == (0 : Int)))) (
    bnd (grd (x61 == (0 : Int)) 0 (ref07_EnergyOf N Zc Zf Ze Zd Zs Zr Zn Zm Zo)) fun x15 =>
    some ((x61 == (0 : Int)) && (x6 == x15)))))) fun K_ =>
  bnd (ref07_TickErr N Zq) fun x8 =>
  br ((x8 != (0 : Int))) (
  br (((((x31 != (2 : Int)) || (x41 != (2 : Int))) || x3) || (x4 != (0 : Int)))) (
  some false) (
  K_ ())) (
  bnd (grd (!(x41 != (0 : Int))) 0 (ref07_NextAwake N Zc Zf Ze Zd Zq)) fun x9 =>
  br (((x41 != (0 : Int)) || (x4 != x9))) (
  some false) (
  bnd (grd (Zl != (-1 : Int)) 0 (ref07_TickErr N Zl)) fun x10 =>
  br (((Zl != (-1 : Int)) && (x10 != (0 : Int)))) (
  br (((x31 != (2 : Int)) || x3)) (
  some false) (
  K_ ())) (
  bnd (grd (!(x31 != (0 : Int))) false (ref07_AwakeAt N Zc Zf Ze Zd Zq Zl)) fun x11 =>
  br (((x31 != (0 : Int)) || (x3 != x11))) (
  some false) (
  K_ ())))))))

end
end Go.Sh
