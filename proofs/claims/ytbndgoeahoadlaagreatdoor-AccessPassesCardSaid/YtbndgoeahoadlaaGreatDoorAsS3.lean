import Derived.Test.YtbndgoeahoadlaaGreatDoorAsS2
set_option linter.all false
namespace Go.Sh
open Go.PW
noncomputable section
def v7 (N : Nat) (s_AccessRules_Identities : Int) (s_phones : List (Int × Int × Int × Int × Int × Int × Int)) (K_ : Unit → Option (Int × Bool)) (rec : Int → Option (Int × Bool)) : Int → Option (Int × Bool) := fun t10 =>
  br (decide (t10 < s_AccessRules_Identities)) (
  bnd (access_had N s_phones t10) fun x1 =>
  br (!x1) (
  some (t10, true)) (
  rec (w64 (t10 + (1 : Int))))) (
  K_ ())
def access_site_free (N : Nat) (s_AccessRules_Preambles : Int) (s_AccessRules_Every : Int) (s_AccessRules_Window : Int) (s_AccessRules_Wait : Int) (s_AccessRules_Tries : Int) (s_AccessRules_Backoff : Int) (s_AccessRules_Identities : Int) (s_at : Int) (s_phones : List (Int × Int × Int × Int × Int × Int × Int)) : Option (Int × Bool) :=
  jn (τ := Unit) (fun (_ : Unit) =>
    some ((0 : Int), false)) fun K_ =>
  rds (v7 N s_AccessRules_Identities s_phones K_) N (0 : Int)
def y9 (N : Nat) (s : List Int) (v : Int) (K_ : Unit → Option Int) (rec : Int → Option Int) : Int → Option Int := fun t8 =>
  br (decide (t8 < (s.length : Int))) (
  chk (0 ≤ t8 ∧ t8 < (s.length : Int)) <|
  br ((v == (s.getD t8.toNat 0))) (
  some t8) (
  rec (w64 (t8 + (1 : Int))))) (
  K_ ())
def slices_Index_ii (N : Nat) (s : List Int) (v : Int) : Option Int :=
  jn (τ := Unit) (fun (_ : Unit) =>
    some (-1 : Int)) fun K_ =>
  rds (y9 N s v K_) N (0 : Int)
def z1 (N : Nat) (s : List Int) (v : Int) : Option Bool :=
  bnd (slices_Index_ii N s v) fun x1 =>
  some (decide (x1 ≥ (0 : Int)))
def access_kindOf_1 (N : Nat) (a0_AccessRules_Preambles : Int) (a0_AccessRules_Every : Int) (a0_AccessRules_Window : Int) (a0_AccessRules_Wait : Int) (a0_AccessRules_Tries : Int) (a0_AccessRules_Backoff : Int) (a0_AccessRules_Identities : Int) (a0_at : Int) (a0_phones : List (Int × Int × Int × Int × Int × Int × Int)) (a1_Kind : Int) (a1_At : Int) (a1_Phone : Int) (a1_Preamble : Int) (a1_Sent : Int) (a1_Identity : Int) : Option Int :=
  some (0 : Int)
def D2 (N : Nat) (r_Preambles : Int) (r_Every : Int) (r_Window : Int) (r_Wait : Int) (r_Tries : Int) (r_Backoff : Int) (r_Identities : Int) (x_At : Int) (x5 : List (Int × Int × Int × Int × Int × Int × Int)) (K_ : Unit → Option (Int × (List (Int × Int × Int × Int × Int × Int × Int)) × Int)) (rec : Int → Option (Int × (List (Int × Int × Int × Int × Int × Int × Int)) × Int)) : Int → Option (Int × (List (Int × Int × Int × Int × Int × Int × Int)) × Int) := fun t37 =>
  br (decide (t37 < (x5.length : Int))) (
  bnd (o8 N r_Preambles r_Every r_Window r_Wait r_Tries r_Backoff r_Identities x_At x5 t37) fun x6 =>
  br ((x6 != (0 : Int))) (
  some ((0 : Int), ([] : List (Int × Int × Int × Int × Int × Int × Int)), x6)) (
  rec (w64 (t37 + (1 : Int))))) (
  K_ ())
def B2 (N : Nat) (r_Tries : Int) (r_Backoff : Int) (e_At : Int) (x10 : List (Int × Int × Int × Int × Int × Int × Int)) (K_1 : (List (Int × Int × Int × Int × Int × Int × Int)) → Option (Int × (List (Int × Int × Int × Int × Int × Int × Int)) × Int)) (rec1 : Int × (List (Int × Int × Int × Int × Int × Int × Int)) → Option (Int × (List (Int × Int × Int × Int × Int × Int × Int)) × Int)) : Int × (List (Int × Int × Int × Int × Int × Int × Int)) → Option (Int × (List (Int × Int × Int × Int × Int × Int × Int)) × Int) := fun (t11, b111) =>
  br (decide (t11 < (x10.length : Int))) (
  chk (0 ≤ t11 ∧ t11 < (b111.length : Int)) <|
  br (((((b111.getD t11.toNat default).1 == (1 : Int)) || ((b111.getD t11.toNat default).1 == (2 : Int))) && (decide ((b111.getD t11.toNat default).2.2.2.2.1 < e_At)))) (
  bnd (D0 N ((b111.getD t11.toNat default).2.2.2.2.2.2)) fun (x11, x111, x112, x113, x114, x115, x116) =>
  br (((b111.getD t11.toNat default).2.2.2.2.2.1 == r_Tries)) (
  rec1 (w64 (t11 + (1 : Int)), (b111.set t11.toNat ((5 : Int), x111, x112, x113, x114, (b111.getD t11.toNat default).2.2.2.2.2.1, x116)))) (
  chk (w64 (r_Backoff + (1 : Int)) ≠ 0) <|
  rec1 (w64 (t11 + (1 : Int)), (b111.set t11.toNat ((3 : Int), x111, x112, x113, w64 ((w64 (((b111.getD t11.toNat default).2.2.2.2.1) + (1 : Int))) + (((w64 ((w64 ((48271 : Int) * x116)) + (1 : Int))).tmod (998244353 : Int)).tmod (w64 (r_Backoff + (1 : Int))))), (b111.getD t11.toNat default).2.2.2.2.2.1, (w64 ((w64 ((48271 : Int) * x116)) + (1 : Int))).tmod (998244353 : Int)))))) (
  rec1 (w64 (t11 + (1 : Int)), b111))) (
  K_1 b111)
def H3 (N : Nat) (r_Preambles : Int) (r_Every : Int) (r_Window : Int) (r_Wait : Int) (r_Tries : Int) (r_Backoff : Int) (r_Identities : Int) (e_At : Int) (e_Phone : Int) (e_Preamble : Int) (b11 : List (Int × Int × Int × Int × Int × Int × Int)) : Option (Int × (List (Int × Int × Int × Int × Int × Int × Int))) :=
  chk (0 ≤ e_Phone ∧ e_Phone < (b11.length : Int)) <|
  bnd (j0 N (((b11.getD e_Phone.toNat default).1 == (3 : Int)) || ((b11.getD e_Phone.toNat default).1 == (0 : Int))) (22 : Int)) fun x13 =>
  bnd (j0 N ((!((b11.getD e_Phone.toNat default).1 == (3 : Int))) || (decide ((b11.getD e_Phone.toNat default).2.2.2.2.1 ≤ e_At))) (17 : Int)) fun x14 =>
  bnd (n1 N r_Preambles r_Every r_Window r_Wait r_Tries r_Backoff r_Identities e_At b11 e_At) fun x15 =>
  bnd (j0 N x15 (13 : Int)) fun x16 =>
  bnd (access_first N ([x13, x14, x16] : List Int)) fun x17 =>
  br ((x17 != (0 : Int))) (
  some (x17, b11)) (
  some ((0 : Int), (b11.set e_Phone.toNat ((1 : Int), e_Preamble, e_At, (-1 : Int), w64 (e_At + r_Window), w64 (((b11.getD e_Phone.toNat default).2.2.2.2.2.1) + (1 : Int)), (b11.getD e_Phone.toNat default).2.2.2.2.2.2))))
def B1 (N : Nat) (r_Wait : Int) (e_At : Int) (e_Preamble : Int) (e_Sent : Int) (b11 : List (Int × Int × Int × Int × Int × Int × Int)) (x19 : Int) (K_2 : Int × (List (Int × Int × Int × Int × Int × Int × Int)) → Option (Int × (List (Int × Int × Int × Int × Int × Int × Int)))) (rec2 : Int × Int × (List (Int × Int × Int × Int × Int × Int × Int)) → Option (Int × (List (Int × Int × Int × Int × Int × Int × Int)))) : Int × Int × (List (Int × Int × Int × Int × Int × Int × Int)) → Option (Int × (List (Int × Int × Int × Int × Int × Int × Int))) := fun (count1, t20, b115) =>
  br (decide (t20 < (b11.length : Int))) (
  chk (0 ≤ t20 ∧ t20 < (b115.length : Int)) <|
  br (((((b115.getD t20.toNat default).1 != (1 : Int)) || ((b115.getD t20.toNat default).2.1 != e_Preamble)) || ((b115.getD t20.toNat default).2.2.1 != e_Sent))) (
  rec2 (count1, w64 (t20 + (1 : Int)), b115)) (
  chk (0 ≤ t20 ∧ t20 < (b115.length : Int)) <|
  rec2 (w64 (count1 + (1 : Int)), w64 (t20 + (1 : Int)), (b115.set t20.toNat ((2 : Int), (-1 : Int), (0 : Int), x19, w64 (e_At + r_Wait), (b115.getD t20.toNat default).2.2.2.2.2.1, (b115.getD t20.toNat default).2.2.2.2.2.2))))) (
  K_2 (count1, b115))
def H2 (N : Nat) (r_Preambles : Int) (r_Every : Int) (r_Window : Int) (r_Wait : Int) (r_Tries : Int) (r_Backoff : Int) (r_Identities : Int) (e_At : Int) (e_Preamble : Int) (e_Sent : Int) (b11 : List (Int × Int × Int × Int × Int × Int × Int)) : Option (Int × (List (Int × Int × Int × Int × Int × Int × Int))) :=
  bnd (access_site_free N r_Preambles r_Every r_Window r_Wait r_Tries r_Backoff r_Identities e_At b11) fun (x19, x191) =>
  jn (τ := Int × (List (Int × Int × Int × Int × Int × Int × Int))) (fun (count, b114) =>
    bnd (j0 N (decide (count > (0 : Int))) (12 : Int)) fun x20 =>
    bnd (j0 N x191 (16 : Int)) fun x21 =>
    bnd (access_first N ([x20, x21] : List Int)) fun x22 =>
    some (x22, b114)) fun K_2 =>
  rds (B1 N r_Wait e_At e_Preamble e_Sent b11 x19 K_2) N ((0 : Int), (0 : Int), b11)
def B0 (N : Nat) (r_Tries : Int) (r_Backoff : Int) (e_At : Int) (e_Phone : Int) (e_Identity : Int) (x24 : List Int) (K_3 : (List (Int × Int × Int × Int × Int × Int × Int)) → Option (Int × (List (Int × Int × Int × Int × Int × Int × Int)))) (rec3 : Int × (List (Int × Int × Int × Int × Int × Int × Int)) → Option (Int × (List (Int × Int × Int × Int × Int × Int × Int)))) : Int × (List (Int × Int × Int × Int × Int × Int × Int)) → Option (Int × (List (Int × Int × Int × Int × Int × Int × Int))) := fun (t30, b118) =>
  br (decide (t30 < (x24.length : Int))) (
  chk (0 ≤ t30 ∧ t30 < (x24.length : Int)) <|
  br (((x24.getD t30.toNat 0) != e_Phone)) (
  chk (0 ≤ (x24.getD t30.toNat 0) ∧ (x24.getD t30.toNat 0) < (b118.length : Int)) <|
  bnd (D0 N ((b118.getD ((x24.getD t30.toNat 0).toNat) default).2.2.2.2.2.2)) fun (x29, x291, x292, x293, x294, x295, x296) =>
  br (((b118.getD ((x24.getD t30.toNat 0).toNat) default).2.2.2.2.2.1 == r_Tries)) (
  rec3 (w64 (t30 + (1 : Int)), (b118.set ((x24.getD t30.toNat 0).toNat) ((5 : Int), x291, x292, x293, x294, (b118.getD ((x24.getD t30.toNat 0).toNat) default).2.2.2.2.2.1, x296)))) (
  chk (w64 (r_Backoff + (1 : Int)) ≠ 0) <|
  rec3 (w64 (t30 + (1 : Int)), (b118.set ((x24.getD t30.toNat 0).toNat) ((3 : Int), x291, x292, x293, w64 (e_At + (((w64 ((w64 ((48271 : Int) * x296)) + (1 : Int))).tmod (998244353 : Int)).tmod (w64 (r_Backoff + (1 : Int))))), (b118.getD ((x24.getD t30.toNat 0).toNat) default).2.2.2.2.2.1, (w64 ((w64 ((48271 : Int) * x296)) + (1 : Int))).tmod (998244353 : Int)))))) (
  chk (0 ≤ (x24.getD t30.toNat 0) ∧ (x24.getD t30.toNat 0) < (b118.length : Int)) <|
  bnd (D0 N ((b118.getD ((x24.getD t30.toNat 0).toNat) default).2.2.2.2.2.2)) fun (x30, x301, x302, x303, x304, x305, x306) =>
  chk (0 ≤ (x24.getD t30.toNat 0) ∧ (x24.getD t30.toNat 0) < (b118.length : Int)) <|
  rec3 (w64 (t30 + (1 : Int)), (b118.set ((x24.getD t30.toNat 0).toNat) ((4 : Int), x301, x302, e_Identity, x304, x305, x306))))) (
  K_3 b118)
def H1 (N : Nat) (r_Preambles : Int) (r_Every : Int) (r_Window : Int) (r_Wait : Int) (r_Tries : Int) (r_Backoff : Int) (r_Identities : Int) (e_At : Int) (e_Phone : Int) (e_Identity : Int) (b11 : List (Int × Int × Int × Int × Int × Int × Int)) : Option (Int × (List (Int × Int × Int × Int × Int × Int × Int))) :=
  bnd (access_site_asking N r_Preambles r_Every r_Window r_Wait r_Tries r_Backoff r_Identities e_At b11 e_Identity) fun x24 =>
  bnd (j0 N (decide ((x24.length : Int) > (0 : Int))) (12 : Int)) fun x25 =>
  bnd (z1 N x24 e_Phone) fun x26 =>
  bnd (j0 N x26 (13 : Int)) fun x27 =>
  bnd (access_first N ([x25, x27] : List Int)) fun x28 =>
  br ((x28 != (0 : Int))) (
  some (x28, b11)) (
  jn (τ := (List (Int × Int × Int × Int × Int × Int × Int))) (fun (b117 : (List (Int × Int × Int × Int × Int × Int × Int))) =>
    some ((0 : Int), b117)) fun K_3 =>
  rds (B0 N r_Tries r_Backoff e_At e_Phone e_Identity x24 K_3) N ((0 : Int), b11))
def H0 (N : Nat) (e_Phone : Int) (b11 : List (Int × Int × Int × Int × Int × Int × Int)) : Option (Int × (List (Int × Int × Int × Int × Int × Int × Int))) :=
  chk (0 ≤ e_Phone ∧ e_Phone < (b11.length : Int)) <|
  br ((((b11.getD e_Phone.toNat default).1 != (4 : Int)) && ((b11.getD e_Phone.toNat default).1 != (5 : Int)))) (
  some ((22 : Int), b11)) (
  bnd (D0 N ((b11.getD e_Phone.toNat default).2.2.2.2.2.2)) fun (x32, x321, x322, x323, x324, x325, x326) =>
  some ((0 : Int), (b11.set e_Phone.toNat (x32, x321, x322, x323, x324, x325, x326))))
def access_Apply (N : Nat) (r_Preambles : Int) (r_Every : Int) (r_Window : Int) (r_Wait : Int) (r_Tries : Int) (r_Backoff : Int) (r_Identities : Int) (x_At : Int) (x_Phones : List (Int × Int × Int × Int × Int × Int × Int)) (e_Kind : Int) (e_At : Int) (e_Phone : Int) (e_Preamble : Int) (e_Sent : Int) (e_Identity : Int) : Option (Int × (List (Int × Int × Int × Int × Int × Int × Int)) × Int) :=
  bnd (q5 N r_Preambles r_Every r_Window r_Wait r_Tries r_Backoff r_Identities) fun x1 =>
  bnd (A3 N x_At) fun x2 =>
  bnd (w9 N (x_Phones.length : Int)) fun x3 =>
  bnd (access_first N ([x1, x2, x3] : List Int)) fun x4 =>
  br ((x4 != (0 : Int))) (
  some ((0 : Int), ([] : List (Int × Int × Int × Int × Int × Int × Int)), x4)) (
  bnd (q6 N x_Phones) fun x5 =>
  jn (τ := Unit) (fun (_ : Unit) =>
    bnd (A9 N r_Preambles r_Every r_Window r_Wait r_Tries r_Backoff r_Identities (x5.length : Int) e_Kind e_At e_Phone e_Preamble e_Sent e_Identity) fun x7 =>
    bnd (j0 N (decide (e_At ≥ x_At)) (9 : Int)) fun x8 =>
    bnd (access_first N ([x7, x8] : List Int)) fun x9 =>
    br ((x9 != (0 : Int))) (
    some ((0 : Int), ([] : List (Int × Int × Int × Int × Int × Int × Int)), x9)) (
    bnd (q6 N x5) fun x10 =>
    jn (τ := (List (Int × Int × Int × Int × Int × Int × Int))) (fun (b11 : (List (Int × Int × Int × Int × Int × Int × Int))) =>
      chk (0 ≤ e_Kind ∧ e_Kind < 5) <|
      br (e_Kind == (0 : Int)) (
        bnd (H3 N r_Preambles r_Every r_Window r_Wait r_Tries r_Backoff r_Identities e_At e_Phone e_Preamble b11) fun (t4, b112) =>
        br ((t4 != (0 : Int))) (
        some ((0 : Int), ([] : List (Int × Int × Int × Int × Int × Int × Int)), t4)) (
        some (e_At, b112, (0 : Int)))) (
      br (e_Kind == (1 : Int)) (
        bnd (H2 N r_Preambles r_Every r_Window r_Wait r_Tries r_Backoff r_Identities e_At e_Preamble e_Sent b11) fun (t41, b113) =>
        br ((t41 != (0 : Int))) (
        some ((0 : Int), ([] : List (Int × Int × Int × Int × Int × Int × Int)), t41)) (
        some (e_At, b113, (0 : Int)))) (
      br (e_Kind == (2 : Int)) (
        bnd (H1 N r_Preambles r_Every r_Window r_Wait r_Tries r_Backoff r_Identities e_At e_Phone e_Identity b11) fun (t42, b116) =>
        br ((t42 != (0 : Int))) (
        some ((0 : Int), ([] : List (Int × Int × Int × Int × Int × Int × Int)), t42)) (
        some (e_At, b116, (0 : Int)))) (
      br (e_Kind == (3 : Int)) (
        bnd (H0 N e_Phone b11) fun (t43, b119) =>
        br ((t43 != (0 : Int))) (
        some ((0 : Int), ([] : List (Int × Int × Int × Int × Int × Int × Int)), t43)) (
        some (e_At, b119, (0 : Int)))) (
      br (e_Kind == (4 : Int)) (
        bnd (access_kindOf_1 N r_Preambles r_Every r_Window r_Wait r_Tries r_Backoff r_Identities e_At b11 (4 : Int) e_At e_Phone e_Preamble e_Sent e_Identity) fun x33 =>
        br ((x33 != (0 : Int))) (
        some ((0 : Int), ([] : List (Int × Int × Int × Int × Int × Int × Int)), x33)) (
        some (e_At, b11, (0 : Int)))) (
      none)))))) fun K_1 =>
    rds (B2 N r_Tries r_Backoff e_At x10 K_1) N ((0 : Int), x10))) fun K_ =>
  rds (D2 N r_Preambles r_Every r_Window r_Wait r_Tries r_Backoff r_Identities x_At x5 K_) N (0 : Int))
end
end Go.Sh
