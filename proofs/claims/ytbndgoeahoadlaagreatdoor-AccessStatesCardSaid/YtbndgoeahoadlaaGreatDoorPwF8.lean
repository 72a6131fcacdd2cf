/-
  Walks of functions whose results nobody else holds: their arguments need not be given up. For every program.
-/
import Derived.Test.YtbndgoeahoadlaaGreatDoorPwF7
import Derived.Test.YtbndgoeahoadlaaGreatDoorExG
set_option linter.all false
namespace Go.PW
open Go.RowKit

def FrOK (env : Env) (v : V) (x : D) : Prop := ∃ k, okD env.objs k v ∧ freshB env.objs k v = true ∧ toD env.objs k v = x
def EndsF (P : Program) (rs : List ResultVar) (x : D) : Exit → Env → Prop :=
  fun e env => (e = .normal ∨ e = .ret) ∧ match resV P rs env with | (c, v) => c ∧ FrOK env v x
attribute [irreducible] EndsF
section
variable {P : Program} {B : Nat} {w0 : World} {S0 : Nat → Prop} {φ : Nat → Option Nat} {env : Env} {a : Act} {w : World}
end

section
variable {ro : Option Nat} {P : Program} {all : List Oper} {env : Env} {K : Env → Prop}
end
section
variable {P : Program} {ops : Array Oper} {g1 : Nat} {os : Nat → List Ob} {κ : Nat → V → V} {cs : List Nat}
@[go_sem] theorem map_nz_list {α : Type} (n : α → Nat) (c : α → List D) (l : List α) : (l.map fun x => D.list (n x) (c x)).map nz = l.map fun x => D.list (n x) (c x) := by rw [List.map_map]; exact List.map_congr_left fun x _ => rfl
end
end Go.PW
