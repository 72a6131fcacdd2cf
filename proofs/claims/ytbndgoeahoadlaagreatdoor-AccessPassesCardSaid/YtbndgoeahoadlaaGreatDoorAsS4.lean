import Derived.Test.YtbndgoeahoadlaaGreatDoorAsS3
set_option linter.all false
namespace Go.Sh
open Go.PW
noncomputable section
def A2 (N : Nat) (r_Preambles : Int) (r_Every : Int) (r_Window : Int) (r_Wait : Int) (r_Tries : Int) (r_Backoff : Int) (r_Identities : Int) (s_At : Int) (s_Phones : List (Int × Int × Int × Int × Int × Int × Int)) : Option Int :=
  bnd (w8 N r_Preambles r_Every r_Window r_Wait r_Tries r_Backoff r_Identities) fun x1 =>
  br ((x1 != (0 : Int))) (
  some x1) (
  bnd (ref07_CheckState N r_Preambles r_Every r_Window r_Wait r_Tries r_Backoff r_Identities s_At s_Phones) fun x2 =>
  some x2)
def ref07_lost (N : Nat) (r_Preambles : Int) (r_Every : Int) (r_Window : Int) (r_Wait : Int) (r_Tries : Int) (r_Backoff : Int) (r_Identities : Int) (p_Stage : Int) (p_Preamble : Int) (p_Sent : Int) (p_Identity : Int) (p_Until : Int) (p_Tries : Int) (p_Draw : Int) (at_ : Int) : Option (Int × Int × Int × Int × Int × Int × Int) :=
  br (decide (p_Tries ≥ r_Tries)) (
  bnd (u5 N (5 : Int) p_Draw) fun (x1, x11, x12, x13, x14, x15, x16) =>
  some (x1, x11, x12, x13, x14, p_Tries, x16)) (
  bnd (u5 N (3 : Int) ((w64 ((w64 (p_Draw * (48271 : Int))) + (1 : Int))).tmod (998244353 : Int))) fun (x2, x21, x22, x23, x24, x25, x26) =>
  chk (w64 (r_Backoff + (1 : Int)) ≠ 0) <|
  some (x2, x21, x22, x23, w64 (at_ + (x26.tmod (w64 (r_Backoff + (1 : Int))))), p_Tries, x26))
def ref07_answered.b1 (N : Nat) (s_Phones : List (Int × Int × Int × Int × Int × Int × Int)) (preamble : Int) (sent : Int) (K_ : List Int → Option (List Int)) (rec : Int × List Int → Option (List Int)) : Int × List Int → Option (List Int) := fun (i, b11) =>
  br (decide (i < (s_Phones.length : Int))) (
  chk (0 ≤ i ∧ i < (s_Phones.length : Int)) <|
  br (((((s_Phones.getD i.toNat default).1 == (1 : Int)) && ((s_Phones.getD i.toNat default).2.1 == preamble)) && ((s_Phones.getD i.toNat default).2.2.1 == sent))) (
  chk (b11.length + ([i] : List Int).length ≤ 1000000000) <|
  rec (w64 (i + (1 : Int)), (b11 ++ ([i] : List Int)))) (
  rec (w64 (i + (1 : Int)), b11))) (
  K_ b11)
def ref07_answered (N : Nat) (s_At : Int) (s_Phones : List (Int × Int × Int × Int × Int × Int × Int)) (preamble : Int) (sent : Int) : Option (List Int) :=
  jn (τ := List Int) (fun (b1 : List Int) =>
    some b1) fun K_ =>
  rds (ref07_answered.b1 N s_Phones preamble sent K_) N ((0 : Int), ([] : List Int))
def ref07_free.b2 (N : Nat) (s_Phones : List (Int × Int × Int × Int × Int × Int × Int)) (nn : Int) (K_2 : Bool → Option Int) (rec1 : Bool × Int → Option Int) : Bool × Int → Option Int := fun (taken1, i) =>
  br (decide (i < (s_Phones.length : Int))) (
  chk ((!taken1) = true → 0 ≤ i ∧ i < (s_Phones.length : Int)) <|
  rec1 ((taken1 || ((s_Phones.getD i.toNat default).2.2.2.1 == nn)), w64 (i + (1 : Int)))) (
  K_2 taken1)
def ref07_free.b1 (N : Nat) (r_Identities : Int) (s_Phones : List (Int × Int × Int × Int × Int × Int × Int)) (K_ : Unit → Option Int) (rec : Int → Option Int) : Int → Option Int := fun nn =>
  br (decide (nn < r_Identities)) (
  jn (τ := Unit) (fun (_ : Unit) =>
    rec (w64 (nn + (1 : Int)))) fun K_1 =>
  jn (τ := Bool) (fun (taken : Bool) =>
    br (!taken) (
    some nn) (
    K_1 ())) fun K_2 =>
  rds (ref07_free.b2 N s_Phones nn K_2) N (false, (0 : Int))) (
  K_ ())
def ref07_free (N : Nat) (r_Preambles : Int) (r_Every : Int) (r_Window : Int) (r_Wait : Int) (r_Tries : Int) (r_Backoff : Int) (r_Identities : Int) (s_At : Int) (s_Phones : List (Int × Int × Int × Int × Int × Int × Int)) : Option Int :=
  jn (τ := Unit) (fun (_ : Unit) =>
    some (-1 : Int)) fun K_ =>
  rds (ref07_free.b1 N r_Identities s_Phones K_) N (0 : Int)
def base_Has.b1 (N : Nat) (l : List Int) (n : Int) (K_ : Unit → Option Bool) (rec : Int → Option Bool) : Int → Option Bool := fun i =>
  br (decide (i < (l.length : Int))) (
  chk (0 ≤ i ∧ i < (l.length : Int)) <|
  br (((l.getD i.toNat 0) == n)) (
  some true) (
  rec (w64 (i + (1 : Int))))) (
  K_ ())
def base_Has (N : Nat) (l : List Int) (n : Int) : Option Bool :=
  jn (τ := Unit) (fun (_ : Unit) =>
    some false) fun K_ =>
  rds (base_Has.b1 N l n K_) N (0 : Int)
def ref07_Apply.b1 (N : Nat) (r_Preambles : Int) (r_Every : Int) (r_Window : Int) (r_Wait : Int) (r_Tries : Int) (r_Backoff : Int) (r_Identities : Int) (e_At : Int) (K_ : (List (Int × Int × Int × Int × Int × Int × Int)) → Option (Int × (List (Int × Int × Int × Int × Int × Int × Int)) × Int)) (rec : Int × (List (Int × Int × Int × Int × Int × Int × Int)) → Option (Int × (List (Int × Int × Int × Int × Int × Int × Int)) × Int)) : Int × (List (Int × Int × Int × Int × Int × Int × Int)) → Option (Int × (List (Int × Int × Int × Int × Int × Int × Int)) × Int) := fun (i, b91) =>
  br (decide (i < (b91.length : Int))) (
  chk (0 ≤ i ∧ i < (b91.length : Int)) <|
  br (((((b91.getD i.toNat default).1 == (1 : Int)) || ((b91.getD i.toNat default).1 == (2 : Int))) && (decide ((b91.getD i.toNat default).2.2.2.2.1 < e_At)))) (
  bnd (ref07_lost N r_Preambles r_Every r_Window r_Wait r_Tries r_Backoff r_Identities ((b91.getD i.toNat default).1) ((b91.getD i.toNat default).2.1) ((b91.getD i.toNat default).2.2.1) ((b91.getD i.toNat default).2.2.2.1) ((b91.getD i.toNat default).2.2.2.2.1) ((b91.getD i.toNat default).2.2.2.2.2.1) ((b91.getD i.toNat default).2.2.2.2.2.2) (w64 (((b91.getD i.toNat default).2.2.2.2.1) + (1 : Int)))) fun (x1, x11, x12, x13, x14, x15, x16) =>
  chk (0 ≤ i ∧ i < (b91.length : Int)) <|
  rec (w64 (i + (1 : Int)), (b91.set i.toNat (x1, x11, x12, x13, x14, x15, x16)))) (
  rec (w64 (i + (1 : Int)), b91))) (
  K_ b91)
def ref07_Apply.b2 (N : Nat) (r_Wait : Int) (e_At : Int) (x3 : List Int) (x4 : Int) (K_2 : (List (Int × Int × Int × Int × Int × Int × Int)) → Option (Int × (List (Int × Int × Int × Int × Int × Int × Int)) × Int)) (rec1 : Int × (List (Int × Int × Int × Int × Int × Int × Int)) → Option (Int × (List (Int × Int × Int × Int × Int × Int × Int)) × Int)) : Int × (List (Int × Int × Int × Int × Int × Int × Int)) → Option (Int × (List (Int × Int × Int × Int × Int × Int × Int)) × Int) := fun (i1, b94) =>
  br (decide (i1 < (x3.length : Int))) (
  chk (0 ≤ i1 ∧ i1 < (x3.length : Int)) <|
  chk (0 ≤ (x3.getD i1.toNat 0) ∧ (x3.getD i1.toNat 0) < (b94.length : Int)) <|
  bnd (u5 N (2 : Int) ((b94.getD ((x3.getD i1.toNat 0).toNat) default).2.2.2.2.2.2)) fun (x5, x51, x52, x53, x54, x55, x56) =>
  chk (0 ≤ i1 ∧ i1 < (x3.length : Int)) <|
  chk (0 ≤ (x3.getD i1.toNat 0) ∧ (x3.getD i1.toNat 0) < (b94.length : Int)) <|
  rec1 (w64 (i1 + (1 : Int)), (b94.set ((x3.getD i1.toNat 0).toNat) (x5, x51, x52, x4, w64 (e_At + r_Wait), (b94.getD ((x3.getD i1.toNat 0).toNat) default).2.2.2.2.2.1, x56)))) (
  K_2 b94)
def ref07_Apply.b3 (N : Nat) (r_Preambles : Int) (r_Every : Int) (r_Window : Int) (r_Wait : Int) (r_Tries : Int) (r_Backoff : Int) (r_Identities : Int) (e_At : Int) (e_Phone : Int) (e_Identity : Int) (x6 : List Int) (K_3 : (List (Int × Int × Int × Int × Int × Int × Int)) → Option (Int × (List (Int × Int × Int × Int × Int × Int × Int)) × Int)) (rec2 : Int × (List (Int × Int × Int × Int × Int × Int × Int)) → Option (Int × (List (Int × Int × Int × Int × Int × Int × Int)) × Int)) : Int × (List (Int × Int × Int × Int × Int × Int × Int)) → Option (Int × (List (Int × Int × Int × Int × Int × Int × Int)) × Int) := fun (i2, b96) =>
  br (decide (i2 < (x6.length : Int))) (
  chk (0 ≤ i2 ∧ i2 < (x6.length : Int)) <|
  chk (0 ≤ (x6.getD i2.toNat 0) ∧ (x6.getD i2.toNat 0) < (b96.length : Int)) <|
  chk (0 ≤ i2 ∧ i2 < (x6.length : Int)) <|
  br (((x6.getD i2.toNat 0) == e_Phone)) (
  bnd (u5 N (4 : Int) ((b96.getD ((x6.getD i2.toNat 0).toNat) default).2.2.2.2.2.2)) fun (x8, x81, x82, x83, x84, x85, x86) =>
  chk (0 ≤ i2 ∧ i2 < (x6.length : Int)) <|
  chk (0 ≤ (x6.getD i2.toNat 0) ∧ (x6.getD i2.toNat 0) < (b96.length : Int)) <|
  rec2 (w64 (i2 + (1 : Int)), (b96.set ((x6.getD i2.toNat 0).toNat) (x8, x81, x82, e_Identity, x84, x85, x86)))) (
  chk (0 ≤ i2 ∧ i2 < (x6.length : Int)) <|
  bnd (ref07_lost N r_Preambles r_Every r_Window r_Wait r_Tries r_Backoff r_Identities ((b96.getD ((x6.getD i2.toNat 0).toNat) default).1) ((b96.getD ((x6.getD i2.toNat 0).toNat) default).2.1) ((b96.getD ((x6.getD i2.toNat 0).toNat) default).2.2.1) ((b96.getD ((x6.getD i2.toNat 0).toNat) default).2.2.2.1) ((b96.getD ((x6.getD i2.toNat 0).toNat) default).2.2.2.2.1) ((b96.getD ((x6.getD i2.toNat 0).toNat) default).2.2.2.2.2.1) ((b96.getD ((x6.getD i2.toNat 0).toNat) default).2.2.2.2.2.2) e_At) fun (x9, x91, x92, x93, x94, x95, x96) =>
  chk (0 ≤ (x6.getD i2.toNat 0) ∧ (x6.getD i2.toNat 0) < (b96.length : Int)) <|
  rec2 (w64 (i2 + (1 : Int)), (b96.set ((x6.getD i2.toNat 0).toNat) (x9, x91, x92, x93, x94, x95, x96))))) (
  K_3 b96)
def ref07_Apply (N : Nat) (r_Preambles : Int) (r_Every : Int) (r_Window : Int) (r_Wait : Int) (r_Tries : Int) (r_Backoff : Int) (r_Identities : Int) (s_At : Int) (s_Phones : List (Int × Int × Int × Int × Int × Int × Int)) (e_Kind : Int) (e_At : Int) (e_Phone : Int) (e_Preamble : Int) (e_Sent : Int) (e_Identity : Int) : Option (Int × (List (Int × Int × Int × Int × Int × Int × Int)) × Int) :=
  br (decide (e_At < s_At)) (
  some ((0 : Int), ([] : List (Int × Int × Int × Int × Int × Int × Int)), (9 : Int))) (
  chk (s_Phones.length ≤ 1000000000) <|
  jn (τ := (List (Int × Int × Int × Int × Int × Int × Int))) (fun (b9 : (List (Int × Int × Int × Int × Int × Int × Int))) =>
    jn (τ := Int × (List (Int × Int × Int × Int × Int × Int × Int))) (fun (c, b92) =>
      br ((c != (0 : Int))) (
      some ((0 : Int), ([] : List (Int × Int × Int × Int × Int × Int × Int)), c)) (
      some (e_At, b92, (0 : Int)))) fun K_1 =>
    br ((e_Kind == (0 : Int))) (
    chk (0 ≤ e_Phone ∧ e_Phone < (b9.length : Int)) <|
    br ((((b9.getD e_Phone.toNat default).1 != (0 : Int)) && ((b9.getD e_Phone.toNat default).1 != (3 : Int)))) (
    K_1 ((22 : Int), b9)) (
    br ((((b9.getD e_Phone.toNat default).1 == (3 : Int)) && (decide ((b9.getD e_Phone.toNat default).2.2.2.2.1 > e_At)))) (
    K_1 ((17 : Int), b9)) (
    chk (r_Every ≠ 0) <|
    br ((e_At.tmod r_Every != (0 : Int))) (
    K_1 ((13 : Int), b9)) (
    bnd (u5 N (1 : Int) ((b9.getD e_Phone.toNat default).2.2.2.2.2.2)) fun (x2, x21, x22, x23, x24, x25, x26) =>
    K_1 ((0 : Int), (b9.set e_Phone.toNat (x2, e_Preamble, e_At, x23, w64 (e_At + r_Window), w64 (((b9.getD e_Phone.toNat default).2.2.2.2.2.1) + (1 : Int)), x26))))))) (
    br ((e_Kind == (1 : Int))) (
    bnd (ref07_answered N e_At b9 e_Preamble e_Sent) fun x3 =>
    br (((x3.length : Int) == (0 : Int))) (
    K_1 ((12 : Int), b9)) (
    bnd (ref07_free N r_Preambles r_Every r_Window r_Wait r_Tries r_Backoff r_Identities e_At b9) fun x4 =>
    br (decide (x4 < (0 : Int))) (
    K_1 ((16 : Int), b9)) (
    jn (τ := (List (Int × Int × Int × Int × Int × Int × Int))) (fun (b93 : (List (Int × Int × Int × Int × Int × Int × Int))) =>
      K_1 ((0 : Int), b93)) fun K_2 =>
    rds (ref07_Apply.b2 N r_Wait e_At x3 x4 K_2) N ((0 : Int), b9)))) (
    br ((e_Kind == (2 : Int))) (
    bnd (ref07_Asking N e_At b9 e_Identity) fun x6 =>
    br (((x6.length : Int) == (0 : Int))) (
    K_1 ((12 : Int), b9)) (
    bnd (base_Has N x6 e_Phone) fun x7 =>
    br (!x7) (
    K_1 ((13 : Int), b9)) (
    jn (τ := (List (Int × Int × Int × Int × Int × Int × Int))) (fun (b95 : (List (Int × Int × Int × Int × Int × Int × Int))) =>
      K_1 ((0 : Int), b95)) fun K_3 =>
    rds (ref07_Apply.b3 N r_Preambles r_Every r_Window r_Wait r_Tries r_Backoff r_Identities e_At e_Phone e_Identity x6 K_3) N ((0 : Int), b9)))) (
    br ((e_Kind == (3 : Int))) (
    chk (0 ≤ e_Phone ∧ e_Phone < (b9.length : Int)) <|
    br ((((b9.getD e_Phone.toNat default).1 != (4 : Int)) && ((b9.getD e_Phone.toNat default).1 != (5 : Int)))) (
    bnd (u5 N (0 : Int) ((b9.getD e_Phone.toNat default).2.2.2.2.2.2)) fun (x10, x101, x102, x103, x104, x105, x106) =>
    K_1 ((22 : Int), (b9.set e_Phone.toNat (x10, x101, x102, x103, x104, x105, x106)))) (
    bnd (u5 N (0 : Int) ((b9.getD e_Phone.toNat default).2.2.2.2.2.2)) fun (x111, x112, x113, x114, x115, x116, x117) =>
    K_1 ((0 : Int), (b9.set e_Phone.toNat (x111, x112, x113, x114, x115, x116, x117))))) (
    K_1 ((0 : Int), b9)))))) fun K_ =>
  rds (ref07_Apply.b1 N r_Preambles r_Every r_Window r_Wait r_Tries r_Backoff r_Identities e_At K_) N ((0 : Int), s_Phones))
def law07_AccessApplies (N : Nat) (r_Preambles : Int) (r_Every : Int) (r_Window : Int) (r_Wait : Int) (r_Tries : Int) (r_Backoff : Int) (r_Identities : Int) (s_At : Int) (s_Phones : List (Int × Int × Int × Int × Int × Int × Int)) (x_Kind : Int) (x_At : Int) (x_Phone : Int) (x_Preamble : Int) (x_Sent : Int) (x_Identity : Int) : Option Bool :=
  bnd (law07_awake N ) fun x1 =>
  br (!x1) (
  some false) (
  bnd (law07_Few N s_At s_Phones) fun x2 =>
  br (!x2) (
  some true) (
  bnd (A6 N s_At s_Phones) fun (x3, x31) =>
  bnd (access_Apply N r_Preambles r_Every r_Window r_Wait r_Tries r_Backoff r_Identities x3 x31 x_Kind x_At x_Phone x_Preamble x_Sent x_Identity) fun (x4, x41, x42) =>
  bnd (A2 N r_Preambles r_Every r_Window r_Wait r_Tries r_Backoff r_Identities s_At s_Phones) fun x5 =>
  jn (τ := Int) (fun (d : Int) =>
    br ((d == (0 : Int))) (
    bnd (ref07_Apply N r_Preambles r_Every r_Window r_Wait r_Tries r_Backoff r_Identities s_At s_Phones x_Kind x_At x_Phone x_Preamble x_Sent x_Identity) fun (x7, x71, x72) =>
    bnd (grd (x42 == x72) false (ref07_Same N x4 x41 x7 x71)) fun x8 =>
    some ((x42 == x72) && x8)) (
    bnd (grd (x42 == d) false (ref07_Same N x4 x41 (0 : Int) ([] : List (Int × Int × Int × Int × Int × Int × Int)))) fun x9 =>
    some ((x42 == d) && x9))) fun K_ =>
  br ((x5 == (0 : Int))) (
  bnd (ref07_CheckEvent N r_Preambles r_Every r_Window r_Wait r_Tries r_Backoff r_Identities (s_Phones.length : Int) x_Kind x_At x_Phone x_Preamble x_Sent x_Identity) fun x6 =>
  K_ x6) (
  K_ x5)))
end
end Go.Sh
