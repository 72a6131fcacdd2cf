import Derived.Test.YtabojpkmfkjjkaaSsTy
import Derived.Test.YtabojpkmfkjjkaaSsM
import Derived.Test.YtabojpkmfkjjkaaSsS
import Derived.Test.YtabojpkmfkjjkaaPwZ
import Derived.Test.YtabojpkmfkjjkaaPwBl
import Derived.Test.YtabojpkmfkjjkaaSsF
import Derived.Test.YtabojpkmfkjjkaaPwF5
import Derived.Test.YtabojpkmfkjjkaaSsD
import Derived.Test.YtabojpkmfkjjkaaPwF6
set_option linter.all false
namespace Go.Sh
open Go.PW Go.Proofs.Ytabojpkmfkjjkaa
end Go.Sh
attribute [go_sem] Go.PW.Env.frzL Go.PW.Env.frz Go.PW.frzOb Go.PW.V.frz Go.PW.V.frz.frzs Go.PW.asD Go.PW.map_asD
