import Derived.Test.YtklejiafioalnaaNsTy
import Derived.Test.YtklejiafioalnaaNsM
import Derived.Test.YtklejiafioalnaaNsA
import Derived.Test.YtklejiafioalnaaNsS
import Derived.Test.YtklejiafioalnaaPwZ
import Derived.Test.YtklejiafioalnaaPwBl
import Derived.Test.YtklejiafioalnaaPwF6
import Derived.Test.YtklejiafioalnaaPwF7
set_option linter.all false
namespace Go.PW
@[go_sem] theorem subV1 (cells : List V) (k : Nat) : subV cells k 1 = [cells.getD k vdef] := by simp [subV, List.range_succ]
end Go.PW
namespace Go.Sh
open Go.PW Go.Proofs.Ytklejiafioalnaa
end Go.Sh
attribute [go_sem] Go.PW.Env.frzL Go.PW.Env.frz Go.PW.frzOb Go.PW.V.frz Go.PW.V.frz.frzs Go.PW.asD Go.PW.map_asD
