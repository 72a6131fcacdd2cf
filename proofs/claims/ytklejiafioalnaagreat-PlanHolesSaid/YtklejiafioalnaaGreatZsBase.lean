import Derived.Test.YtklejiafioalnaaGreatZsTy
import Derived.Test.YtklejiafioalnaaGreatZsM
import Derived.Test.YtklejiafioalnaaGreatZsA
import Derived.Test.YtklejiafioalnaaGreatZsS
import Derived.Test.YtklejiafioalnaaGreatPwZ
import Derived.Test.YtklejiafioalnaaGreatPwBl
import Derived.Test.YtklejiafioalnaaGreatPwF7
import Derived.Test.YtklejiafioalnaaGreatPwF8
import Derived.Test.YtklejiafioalnaaGreatPwF3
set_option linter.all false
namespace Go.PW
@[go_sem] theorem subV1 (cells : List V) (k : Nat) : subV cells k 1 = [cells.getD k vdef] := by simp [subV, List.range_succ]
end Go.PW
namespace Go.Sh
open Go.PW Go.Proofs.YtklejiafioalnaaGreat
end Go.Sh
attribute [go_sem] Go.PW.Env.frzL Go.PW.Env.frz Go.PW.frzOb Go.PW.V.frz Go.PW.V.frz.frzs Go.PW.asD Go.PW.map_asD
