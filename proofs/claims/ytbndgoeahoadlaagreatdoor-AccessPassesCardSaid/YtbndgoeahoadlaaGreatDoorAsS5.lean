import Derived.Test.YtbndgoeahoadlaaGreatDoorAsS4
set_option linter.all false
namespace Go.Sh
open Go.PW
noncomputable section
def z8 (N : Nat) (x_At : Int) (x91 : List (Int × Int × Int × Int × Int × Int × Int)) (K_ : Unit → Option Bool) (rec : Int → Option Bool) : Int → Option Bool := fun i =>
  br (decide (i < (x91.length : Int))) (
  chk (0 ≤ i ∧ i < (x91.length : Int)) <|
  br (((((x91.getD i.toNat default).1 == (1 : Int)) || ((x91.getD i.toNat default).1 == (2 : Int))) && (decide ((x91.getD i.toNat default).2.2.2.2.1 < x_At)))) (
  some false) (
  rec (w64 (i + (1 : Int))))) (
  K_ ())
def law07_AccessPasses (N : Nat) (r_Preambles : Int) (r_Every : Int) (r_Window : Int) (r_Wait : Int) (r_Tries : Int) (r_Backoff : Int) (r_Identities : Int) (s_At : Int) (s_Phones : List (Int × Int × Int × Int × Int × Int × Int)) (x_Event_Kind : Int) (x_Event_At : Int) (x_Event_Phone : Int) (x_Event_Preamble : Int) (x_Event_Sent : Int) (x_Event_Identity : Int) (x_At : Int) : Option Bool :=
  bnd (law07_awake N ) fun x1 =>
  br (!x1) (
  some false) (
  bnd (law07_Few N s_At s_Phones) fun x2 =>
  bnd (grd x2 0 (A2 N r_Preambles r_Every r_Window r_Wait r_Tries r_Backoff r_Identities s_At s_Phones)) fun x3 =>
  bnd (grd (!((!x2) || (x3 != (0 : Int)))) false (k4 N x_At s_At x_Event_At)) fun x4 =>
  bnd (grd (!(((!x2) || (x3 != (0 : Int))) || (!x4))) 0 (B4 N x_Event_At)) fun x5 =>
  br (((((!x2) || (x3 != (0 : Int))) || (!x4)) || (x5 != (0 : Int)))) (
  some true) (
  bnd (A6 N s_At s_Phones) fun (x6, x61) =>
  bnd (access_Apply N r_Preambles r_Every r_Window r_Wait r_Tries r_Backoff r_Identities x6 x61 x_Event_Kind x_Event_At x_Event_Phone x_Event_Preamble x_Event_Sent x_Event_Identity) fun (x7, x71, x72) =>
  bnd (A6 N s_At s_Phones) fun (x8, x81) =>
  bnd (access_Apply N r_Preambles r_Every r_Window r_Wait r_Tries r_Backoff r_Identities x8 x81 (4 : Int) x_At (0 : Int) (0 : Int) (0 : Int) (0 : Int)) fun (x9, x91, x92) =>
  bnd (grd (!(x92 != (0 : Int))) 0 (ref07_CheckState N r_Preambles r_Every r_Window r_Wait r_Tries r_Backoff r_Identities x9 x91)) fun x10 =>
  br ((((x92 != (0 : Int)) || (x10 != (0 : Int))) || ((x91.length : Int) != (s_Phones.length : Int)))) (
  some false) (
  jn (τ := Unit) (fun (_ : Unit) =>
    bnd (A6 N x9 x91) fun (x11, x111) =>
    bnd (access_Apply N r_Preambles r_Every r_Window r_Wait r_Tries r_Backoff r_Identities x11 x111 x_Event_Kind x_Event_At x_Event_Phone x_Event_Preamble x_Event_Sent x_Event_Identity) fun (x12, x121, x122) =>
    bnd (grd (x72 == x122) false (ref07_Same N x7 x71 x12 x121)) fun x13 =>
    some ((x72 == x122) && x13)) fun K_ =>
  rds (z8 N x_At x91 K_) N (0 : Int))))
def law07_AccessOneIdentity.b2 (N : Nat) (s_Phones : List (Int × Int × Int × Int × Int × Int × Int)) (x51 : List (Int × Int × Int × Int × Int × Int × Int)) (i : Int) (K_1 : Unit → Option Bool) (rec1 : Int → Option Bool) : Int → Option Bool := fun k =>
  br (decide (k < i)) (
  chk (0 ≤ k ∧ k < (x51.length : Int)) <|
  chk (0 ≤ k ∧ k < (s_Phones.length : Int)) <|
  br (((((x51.getD i.toNat default).1 == (4 : Int)) && ((x51.getD k.toNat default).1 == (4 : Int))) && (((x51.getD i.toNat default).2.2.2.1 == (x51.getD k.toNat default).2.2.2.1) || ((((s_Phones.getD i.toNat default).1 == (2 : Int)) && ((s_Phones.getD k.toNat default).1 == (2 : Int))) && ((s_Phones.getD i.toNat default).2.2.2.1 == (s_Phones.getD k.toNat default).2.2.2.1))))) (
  some false) (
  br (((((x51.getD i.toNat default).2.2.2.1 == (x51.getD k.toNat default).2.2.2.1) && ((x51.getD i.toNat default).2.2.2.1 != (-1 : Int))) && (((x51.getD i.toNat default).1 == (4 : Int)) || ((x51.getD k.toNat default).1 == (4 : Int))))) (
  some false) (
  rec1 (w64 (k + (1 : Int)))))) (
  K_1 ())
def law07_AccessOneIdentity.b1 (N : Nat) (r_Tries : Int) (s_Phones : List (Int × Int × Int × Int × Int × Int × Int)) (x51 : List (Int × Int × Int × Int × Int × Int × Int)) (K_ : Unit → Option Bool) (rec : Int → Option Bool) : Int → Option Bool := fun i =>
  br (decide (i < (x51.length : Int))) (
  jn (τ := Unit) (fun (_ : Unit) =>
    rec (w64 (i + (1 : Int)))) fun K_1 =>
  chk (0 ≤ i ∧ i < (x51.length : Int)) <|
  chk (0 ≤ i ∧ i < (s_Phones.length : Int)) <|
  bnd (k4 N ((x51.getD i.toNat default).2.2.2.2.2.1) (0 : Int) r_Tries) fun x10 =>
  br (!x10) (
  some false) (
  rds (law07_AccessOneIdentity.b2 N s_Phones x51 i K_1) N (0 : Int))) (
  K_ ())
def law07_AccessOneIdentity (N : Nat) (r_Preambles : Int) (r_Every : Int) (r_Window : Int) (r_Wait : Int) (r_Tries : Int) (r_Backoff : Int) (r_Identities : Int) (s_At : Int) (s_Phones : List (Int × Int × Int × Int × Int × Int × Int)) (x_Kind : Int) (x_At : Int) (x_Phone : Int) (x_Preamble : Int) (x_Sent : Int) (x_Identity : Int) : Option Bool :=
  bnd (law07_awake N ) fun x1 =>
  br (!x1) (
  some false) (
  bnd (law07_Few N s_At s_Phones) fun x2 =>
  bnd (grd x2 0 (A2 N r_Preambles r_Every r_Window r_Wait r_Tries r_Backoff r_Identities s_At s_Phones)) fun x3 =>
  br (((!x2) || (x3 != (0 : Int)))) (
  some true) (
  bnd (A6 N s_At s_Phones) fun (x4, x41) =>
  bnd (access_Apply N r_Preambles r_Every r_Window r_Wait r_Tries r_Backoff r_Identities x4 x41 x_Kind x_At x_Phone x_Preamble x_Sent x_Identity) fun (x5, x51, x52) =>
  br ((x52 != (0 : Int))) (
  bnd (ref07_Same N x5 x51 (0 : Int) ([] : List (Int × Int × Int × Int × Int × Int × Int))) fun x6 =>
  some x6) (
  bnd (A6 N x5 x51) fun (x7, x71) =>
  bnd (access_CheckState N r_Preambles r_Every r_Window r_Wait r_Tries r_Backoff r_Identities x7 x71) fun x8 =>
  bnd (grd (!(x8 != (0 : Int))) 0 (ref07_CheckState N r_Preambles r_Every r_Window r_Wait r_Tries r_Backoff r_Identities x5 x51)) fun x9 =>
  br (((((x8 != (0 : Int)) || (x9 != (0 : Int))) || (x5 != x_At)) || ((x51.length : Int) != (s_Phones.length : Int)))) (
  some false) (
  jn (τ := Unit) (fun (_ : Unit) =>
    some true) fun K_ =>
  rds (law07_AccessOneIdentity.b1 N r_Tries s_Phones x51 K_) N (0 : Int)))))
end
end Go.Sh
