/-
 Loops of few rounds, walked round by round. For every program.
-/
import Derived.Test.YtklejiafioalnaaPwF6
import Derived.LoopNIn
set_option linter.all false
namespace Go.PW
open Go.RowKit

def PW.rounds (ro : Option Nat) (P : Program) (c : Code) (Q : Exit → Env → Prop) : Nat → Env → Prop
 | 0, _ => False
 | m + 1, env => PW ro P c (andThen (PW.rounds ro P c Q m) Q) env
theorem PW.loopN {ro : Option Nat} {P : Program} {c : Code} {Q : Exit → Env → Prop} {env : Env} (m : Nat) (h : PW.rounds ro P c Q m env) : PW ro P (.loop c) Q env := by
 intro B w0 S0 φ a w hr
 refine wpIn_loop_rounds m ?_
 induction m generalizing env φ a w with
 | zero => exact h.elim
 | succ m ih =>
  rw [roundsIn_succ]
  refine wpIn_mono (h B w0 S0 φ a w hr) ?_
  rintro e a' w' ⟨env', φ', hq, hr'⟩
  cases e with
  | normal => exact ih hq φ' a' w' hr'
  | _ => exact ⟨env', φ', hq, hr'⟩
theorem w64_add01 : w64 ((0 : Int) + (1 : Int)) = 1 := by rw [w64_id (by omega)]; rfl
theorem w64_add11 : w64 ((1 : Int) + (1 : Int)) = 2 := by rw [w64_id (by omega)]; rfl
attribute [go_sem] w64_add01 w64_add11
end Go.PW
