import Derived.Test.YtbndgoeahoadlaaGreatDoorAsTy
import Derived.Test.YtbndgoeahoadlaaGreatDoorAsM
import Derived.Test.YtbndgoeahoadlaaGreatDoorAsA
import Derived.Test.YtbndgoeahoadlaaGreatDoorAsS
import Derived.Test.YtbndgoeahoadlaaGreatDoorPwZ
import Derived.Test.YtbndgoeahoadlaaGreatDoorPwBl
import Derived.Test.YtbndgoeahoadlaaGreatDoorPwF7
import Derived.Test.YtbndgoeahoadlaaGreatDoorPwF8
import Derived.Test.YtbndgoeahoadlaaGreatDoorPwF3
import Derived.Test.YtbndgoeahoadlaaGreatDoorPwG5
set_option linter.all false
namespace Go.Sh
open Go.PW Go.Proofs.YtbndgoeahoadlaaGreatDoor
end Go.Sh
attribute [go_sem] Go.PW.Env.frzL Go.PW.Env.frz Go.PW.frzOb Go.PW.V.frz Go.PW.V.frz.frzs Go.PW.asD Go.PW.map_asD
