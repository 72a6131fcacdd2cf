/-
 Loops whose heads know more and more blocks; blocks that take the place of others. For every program.
-/
import Derived.Test.YtklejiafioalnaaPwF1
set_option linter.all false
namespace Go.PW
open Go.RowKit
section
variable {ro : Option Nat} {P : Program} {Q : Exit → Env → Prop} {c : Code} {env : Env} {σ R τ : Type}
end
end Go.PW
