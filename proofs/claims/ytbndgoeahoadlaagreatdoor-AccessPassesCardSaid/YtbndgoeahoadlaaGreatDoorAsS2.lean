import Derived.Test.YtbndgoeahoadlaaGreatDoorAsS
import Derived.Test.YtbndgoeahoadlaaGreatDoorPwG5
set_option linter.all false
namespace Go.Sh
open Go.PW
noncomputable section
def access_CheckState.b1 (N : Nat) (r_Preambles : Int) (r_Every : Int) (r_Window : Int) (r_Wait : Int) (r_Tries : Int) (r_Backoff : Int) (r_Identities : Int) (s_At : Int) (x5 : List (Int × Int × Int × Int × Int × Int × Int)) (K_ : Unit → Option Int) (rec : Int → Option Int) : Int → Option Int := fun t37 =>
  br (decide (t37 < (x5.length : Int))) (
  bnd (o8 N r_Preambles r_Every r_Window r_Wait r_Tries r_Backoff r_Identities s_At x5 t37) fun x6 =>
  br ((x6 != (0 : Int))) (
  some x6) (
  rec (w64 (t37 + (1 : Int))))) (
  K_ ())
def access_CheckState (N : Nat) (r_Preambles : Int) (r_Every : Int) (r_Window : Int) (r_Wait : Int) (r_Tries : Int) (r_Backoff : Int) (r_Identities : Int) (s_At : Int) (s_Phones : List (Int × Int × Int × Int × Int × Int × Int)) : Option Int :=
  bnd (q5 N r_Preambles r_Every r_Window r_Wait r_Tries r_Backoff r_Identities) fun x1 =>
  bnd (A3 N s_At) fun x2 =>
  bnd (w9 N (s_Phones.length : Int)) fun x3 =>
  bnd (access_first N ([x1, x2, x3] : List Int)) fun x4 =>
  br ((x4 != (0 : Int))) (
  some x4) (
  bnd (q6 N s_Phones) fun x5 =>
  jn (τ := Unit) (fun (_ : Unit) =>
    some (0 : Int)) fun K_ =>
  rds (access_CheckState.b1 N r_Preambles r_Every r_Window r_Wait r_Tries r_Backoff r_Identities s_At x5 K_) N (0 : Int))
def access_isKind (N : Nat) (n : Int) : Option Bool :=
  bnd (j1 N n (0 : Int) (4 : Int)) fun x1 =>
  some x1
def l1 (N : Nat) (u : Int) (e_Kind : Int) (e_At : Int) (e_Phone : Int) (e_Preamble : Int) (e_Sent : Int) (e_Identity : Int) : Option Int :=
  chk (0 ≤ u ∧ u < 4) <|
  br (u == (0 : Int)) (
    some e_Phone) (
  br (u == (1 : Int)) (
    some e_Preamble) (
  br (u == (2 : Int)) (
    some e_Sent) (
  br (u == (3 : Int)) (
    some e_Identity) (
  none))))
def A9 (N : Nat) (r_Preambles : Int) (r_Every : Int) (r_Window : Int) (r_Wait : Int) (r_Tries : Int) (r_Backoff : Int) (r_Identities : Int) (phones : Int) (e_Kind : Int) (e_At : Int) (e_Phone : Int) (e_Preamble : Int) (e_Sent : Int) (e_Identity : Int) : Option Int :=
  bnd (access_isKind N e_Kind) fun x1 =>
  bnd (j0 N x1 (15 : Int)) fun x2 =>
  bnd (A3 N e_At) fun x3 =>
  bnd (access_first N ([x2, x3] : List Int)) fun x4 =>
  br ((x4 != (0 : Int))) (
  some x4) (
  chk (0 ≤ e_Kind ∧ e_Kind < 5) <|
  br (e_Kind == (0 : Int)) (
    jn (τ := Unit) (fun (_ : Unit) =>
      br (!(((0 : Int) == (0 : Int)) && ((e_At == e_At) && ((e_Phone == e_Phone) && ((e_Preamble == e_Preamble) && (((0 : Int) == e_Sent) && ((0 : Int) == e_Identity))))))) (
      some (3 : Int)) (
      jn (τ := Unit) (fun (_ : Unit) =>
        bnd (j1 N e_Sent (0 : Int) e_At) fun x9 =>
        bnd (j0 N x9 (2 : Int)) fun x10 =>
        some x10) fun K_1 =>
      chk (0 ≤ (0 : Int) ∧ (0 : Int) < (2 : Int)) <|
      bnd (grd ((0 : Int) != (2 : Int)) 0 (l1 N (0 : Int) (0 : Int) e_At e_Phone e_Preamble e_Sent e_Identity)) fun x5 =>
      bnd (grd ((0 : Int) != (2 : Int)) false (j1 N x5 (0 : Int) (w64 (phones - (1 : Int))))) fun x6 =>
      br ((((0 : Int) != (2 : Int)) && (!x6))) (
      some (6 : Int)) (
      chk (0 ≤ (1 : Int) ∧ (1 : Int) < (2 : Int)) <|
      bnd (grd ((1 : Int) != (2 : Int)) 0 (l1 N (1 : Int) (0 : Int) e_At e_Phone e_Preamble e_Sent e_Identity)) fun x7 =>
      bnd (grd ((1 : Int) != (2 : Int)) false (j1 N x7 (0 : Int) (w64 (r_Preambles - (1 : Int))))) fun x8 =>
      br ((((1 : Int) != (2 : Int)) && (!x8))) (
      some (6 : Int)) (
      K_1 ())))) fun K_ =>
    chk (0 ≤ (0 : Int) ∧ (0 : Int) < (2 : Int)) <|
    chk (0 ≤ (1 : Int) ∧ (1 : Int) < (2 : Int)) <|
    K_ ()) (
  br (e_Kind == (1 : Int)) (
    jn (τ := Unit) (fun (_ : Unit) =>
      br (!(((1 : Int) == (1 : Int)) && ((e_At == e_At) && (((0 : Int) == e_Phone) && ((e_Preamble == e_Preamble) && ((e_Sent == e_Sent) && ((0 : Int) == e_Identity))))))) (
      some (3 : Int)) (
      jn (τ := Unit) (fun (_ : Unit) =>
        bnd (j1 N e_Sent (0 : Int) e_At) fun x15 =>
        bnd (j0 N x15 (2 : Int)) fun x16 =>
        some x16) fun K_3 =>
      chk (0 ≤ (0 : Int) ∧ (0 : Int) < (2 : Int)) <|
      bnd (grd ((1 : Int) != (2 : Int)) 0 (l1 N (1 : Int) (1 : Int) e_At e_Phone e_Preamble e_Sent e_Identity)) fun x11 =>
      bnd (grd ((1 : Int) != (2 : Int)) false (j1 N x11 (0 : Int) (w64 (r_Preambles - (1 : Int))))) fun x12 =>
      br ((((1 : Int) != (2 : Int)) && (!x12))) (
      some (6 : Int)) (
      chk (0 ≤ (1 : Int) ∧ (1 : Int) < (2 : Int)) <|
      bnd (grd ((2 : Int) != (2 : Int)) 0 (l1 N (2 : Int) (1 : Int) e_At e_Phone e_Preamble e_Sent e_Identity)) fun x13 =>
      bnd (grd ((2 : Int) != (2 : Int)) false (j1 N x13 (0 : Int) (w64 ((0 : Int) - (1 : Int))))) fun x14 =>
      br ((((2 : Int) != (2 : Int)) && (!x14))) (
      some (6 : Int)) (
      K_3 ())))) fun K_2 =>
    chk (0 ≤ (0 : Int) ∧ (0 : Int) < (2 : Int)) <|
    chk (0 ≤ (1 : Int) ∧ (1 : Int) < (2 : Int)) <|
    K_2 ()) (
  br (e_Kind == (2 : Int)) (
    jn (τ := Unit) (fun (_ : Unit) =>
      br (!(((2 : Int) == (2 : Int)) && ((e_At == e_At) && ((e_Phone == e_Phone) && (((0 : Int) == e_Preamble) && (((0 : Int) == e_Sent) && (e_Identity == e_Identity))))))) (
      some (3 : Int)) (
      jn (τ := Unit) (fun (_ : Unit) =>
        bnd (j1 N e_Sent (0 : Int) e_At) fun x21 =>
        bnd (j0 N x21 (2 : Int)) fun x22 =>
        some x22) fun K_5 =>
      chk (0 ≤ (0 : Int) ∧ (0 : Int) < (2 : Int)) <|
      bnd (grd ((3 : Int) != (2 : Int)) 0 (l1 N (3 : Int) (2 : Int) e_At e_Phone e_Preamble e_Sent e_Identity)) fun x17 =>
      bnd (grd ((3 : Int) != (2 : Int)) false (j1 N x17 (0 : Int) (w64 (r_Identities - (1 : Int))))) fun x18 =>
      br ((((3 : Int) != (2 : Int)) && (!x18))) (
      some (6 : Int)) (
      chk (0 ≤ (1 : Int) ∧ (1 : Int) < (2 : Int)) <|
      bnd (grd ((0 : Int) != (2 : Int)) 0 (l1 N (0 : Int) (2 : Int) e_At e_Phone e_Preamble e_Sent e_Identity)) fun x19 =>
      bnd (grd ((0 : Int) != (2 : Int)) false (j1 N x19 (0 : Int) (w64 (phones - (1 : Int))))) fun x20 =>
      br ((((0 : Int) != (2 : Int)) && (!x20))) (
      some (6 : Int)) (
      K_5 ())))) fun K_4 =>
    chk (0 ≤ (0 : Int) ∧ (0 : Int) < (2 : Int)) <|
    chk (0 ≤ (1 : Int) ∧ (1 : Int) < (2 : Int)) <|
    K_4 ()) (
  br (e_Kind == (3 : Int)) (
    jn (τ := Unit) (fun (_ : Unit) =>
      br (!(((3 : Int) == (3 : Int)) && ((e_At == e_At) && ((e_Phone == e_Phone) && (((0 : Int) == e_Preamble) && (((0 : Int) == e_Sent) && ((0 : Int) == e_Identity))))))) (
      some (3 : Int)) (
      jn (τ := Unit) (fun (_ : Unit) =>
        bnd (j1 N e_Sent (0 : Int) e_At) fun x25 =>
        bnd (j0 N x25 (2 : Int)) fun x26 =>
        some x26) fun K_7 =>
      chk (0 ≤ (0 : Int) ∧ (0 : Int) < (1 : Int)) <|
      bnd (grd ((0 : Int) != (2 : Int)) 0 (l1 N (0 : Int) (3 : Int) e_At e_Phone e_Preamble e_Sent e_Identity)) fun x23 =>
      bnd (grd ((0 : Int) != (2 : Int)) false (j1 N x23 (0 : Int) (w64 (phones - (1 : Int))))) fun x24 =>
      br ((((0 : Int) != (2 : Int)) && (!x24))) (
      some (6 : Int)) (
      K_7 ()))) fun K_6 =>
    chk (0 ≤ (0 : Int) ∧ (0 : Int) < (1 : Int)) <|
    K_6 ()) (
  br (e_Kind == (4 : Int)) (
    jn (τ := Unit) (fun (_ : Unit) =>
      br (!(((4 : Int) == (4 : Int)) && ((e_At == e_At) && (((0 : Int) == e_Phone) && (((0 : Int) == e_Preamble) && (((0 : Int) == e_Sent) && ((0 : Int) == e_Identity))))))) (
      some (3 : Int)) (
      jn (τ := Unit) (fun (_ : Unit) =>
        bnd (j1 N e_Sent (0 : Int) e_At) fun x27 =>
        bnd (j0 N x27 (2 : Int)) fun x28 =>
        some x28) fun K_9 =>
      K_9 ())) fun K_8 =>
    K_8 ()) (
  none))))))
def access_CheckEvent (N : Nat) (r_Preambles : Int) (r_Every : Int) (r_Window : Int) (r_Wait : Int) (r_Tries : Int) (r_Backoff : Int) (r_Identities : Int) (phones : Int) (e_Kind : Int) (e_At : Int) (e_Phone : Int) (e_Preamble : Int) (e_Sent : Int) (e_Identity : Int) : Option Int :=
  bnd (q5 N r_Preambles r_Every r_Window r_Wait r_Tries r_Backoff r_Identities) fun x1 =>
  bnd (j1 N phones (1 : Int) (8 : Int)) fun x2 =>
  bnd (j0 N x2 (2 : Int)) fun x3 =>
  bnd (access_first N ([x1, x3] : List Int)) fun x4 =>
  br ((x4 != (0 : Int))) (
  some x4) (
  bnd (A9 N r_Preambles r_Every r_Window r_Wait r_Tries r_Backoff r_Identities phones e_Kind e_At e_Phone e_Preamble e_Sent e_Identity) fun x5 =>
  some x5)
def ref07_used (N : Nat) (e_Kind : Int) (e_At : Int) (e_Phone : Int) (e_Preamble : Int) (e_Sent : Int) (e_Identity : Int) : Option (Int × Int × Int × Int × Int × Int) :=
  br ((e_Kind == (0 : Int))) (
  some (e_Kind, e_At, e_Phone, e_Preamble, (0 : Int), (0 : Int))) (
  br ((e_Kind == (1 : Int))) (
  some (e_Kind, e_At, (0 : Int), e_Preamble, e_Sent, (0 : Int))) (
  br ((e_Kind == (2 : Int))) (
  some (e_Kind, e_At, e_Phone, (0 : Int), (0 : Int), e_Identity)) (
  br ((e_Kind == (3 : Int))) (
  some (e_Kind, e_At, e_Phone, (0 : Int), (0 : Int), (0 : Int))) (
  some (e_Kind, e_At, (0 : Int), (0 : Int), (0 : Int), (0 : Int))))))
def ref07_CheckEvent (N : Nat) (r_Preambles : Int) (r_Every : Int) (r_Window : Int) (r_Wait : Int) (r_Tries : Int) (r_Backoff : Int) (r_Identities : Int) (phones : Int) (e_Kind : Int) (e_At : Int) (e_Phone : Int) (e_Preamble : Int) (e_Sent : Int) (e_Identity : Int) : Option Int :=
  bnd (k4 N e_Kind (0 : Int) (4 : Int)) fun x1 =>
  br (!x1) (
  some (15 : Int)) (
  bnd (B4 N e_At) fun x2 =>
  br ((x2 != (0 : Int))) (
  some x2) (
  bnd (ref07_used N e_Kind e_At e_Phone e_Preamble e_Sent e_Identity) fun (x3, x31, x32, x33, x34, x35) =>
  br (!((x3 == e_Kind) && ((x31 == e_At) && ((x32 == e_Phone) && ((x33 == e_Preamble) && ((x34 == e_Sent) && (x35 == e_Identity))))))) (
  some (3 : Int)) (
  bnd (grd (((e_Kind == (0 : Int)) || (e_Kind == (2 : Int))) || (e_Kind == (3 : Int))) false (k4 N e_Phone (0 : Int) (w64 (phones - (1 : Int))))) fun x4 =>
  bnd (grd ((!((((e_Kind == (0 : Int)) || (e_Kind == (2 : Int))) || (e_Kind == (3 : Int))) && (!x4))) && ((e_Kind == (0 : Int)) || (e_Kind == (1 : Int)))) false (k4 N e_Preamble (0 : Int) (w64 (r_Preambles - (1 : Int))))) fun x5 =>
  bnd (grd ((!(((((e_Kind == (0 : Int)) || (e_Kind == (2 : Int))) || (e_Kind == (3 : Int))) && (!x4)) || (((e_Kind == (0 : Int)) || (e_Kind == (1 : Int))) && (!x5)))) && (e_Kind == (2 : Int))) 0 (q0 N r_Preambles r_Every r_Window r_Wait r_Tries r_Backoff r_Identities e_Identity)) fun x6 =>
  br (((((((e_Kind == (0 : Int)) || (e_Kind == (2 : Int))) || (e_Kind == (3 : Int))) && (!x4)) || (((e_Kind == (0 : Int)) || (e_Kind == (1 : Int))) && (!x5))) || ((e_Kind == (2 : Int)) && (x6 != (0 : Int))))) (
  some (6 : Int)) (
  bnd (grd (e_Kind == (1 : Int)) false (k4 N e_Sent (0 : Int) e_At)) fun x7 =>
  br (((e_Kind == (1 : Int)) && (!x7))) (
  some (2 : Int)) (
  some (0 : Int))))))
def law07_AccessStates (N : Nat) (r_Preambles : Int) (r_Every : Int) (r_Window : Int) (r_Wait : Int) (r_Tries : Int) (r_Backoff : Int) (r_Identities : Int) (s_At : Int) (s_Phones : List (Int × Int × Int × Int × Int × Int × Int)) (x_Event_Kind : Int) (x_Event_At : Int) (x_Event_Phone : Int) (x_Event_Preamble : Int) (x_Event_Sent : Int) (x_Event_Identity : Int) (x_Phones : Int) : Option Bool :=
  bnd (law07_awake N ) fun x1 =>
  br (!x1) (
  some false) (
  bnd (law07_Few N s_At s_Phones) fun x2 =>
  br (!x2) (
  some true) (
  bnd (A6 N s_At s_Phones) fun (x3, x31) =>
  bnd (access_CheckState N r_Preambles r_Every r_Window r_Wait r_Tries r_Backoff r_Identities x3 x31) fun x4 =>
  bnd (access_CheckEvent N r_Preambles r_Every r_Window r_Wait r_Tries r_Backoff r_Identities x_Phones x_Event_Kind x_Event_At x_Event_Phone x_Event_Preamble x_Event_Sent x_Event_Identity) fun x5 =>
  bnd (w8 N r_Preambles r_Every r_Window r_Wait r_Tries r_Backoff r_Identities) fun x6 =>
  jn (τ := Int) (fun (d : Int) =>
    br ((x4 != d)) (
    some false) (
    jn (τ := Int) (fun (c : Int) =>
      br ((c == (0 : Int))) (
      bnd (ref07_CheckEvent N r_Preambles r_Every r_Window r_Wait r_Tries r_Backoff r_Identities x_Phones x_Event_Kind x_Event_At x_Event_Phone x_Event_Preamble x_Event_Sent x_Event_Identity) fun x9 =>
      some (x5 == x9)) (
      some (x5 == c))) fun K_1 =>
    bnd (grd (x6 == (0 : Int)) false (k4 N x_Phones (1 : Int) (8 : Int))) fun x8 =>
    br (((x6 == (0 : Int)) && (!x8))) (
    K_1 (2 : Int)) (
    K_1 x6))) fun K_ =>
  br ((x6 == (0 : Int))) (
  bnd (ref07_CheckState N r_Preambles r_Every r_Window r_Wait r_Tries r_Backoff r_Identities s_At s_Phones) fun x7 =>
  K_ x7) (
  K_ x6)))
end
end Go.Sh
