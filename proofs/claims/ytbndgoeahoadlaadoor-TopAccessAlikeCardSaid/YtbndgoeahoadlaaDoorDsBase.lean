import Derived.Test.YtbndgoeahoadlaaDoorDsTy
import Derived.Test.YtbndgoeahoadlaaDoorDsM
import Derived.Test.YtbndgoeahoadlaaDoorDsA
import Derived.Test.YtbndgoeahoadlaaDoorDsS
import Derived.Test.YtbndgoeahoadlaaDoorPwZ
import Derived.Test.YtbndgoeahoadlaaDoorPwBl
import Derived.Test.YtbndgoeahoadlaaDoorPwF7
import Derived.Test.YtbndgoeahoadlaaDoorPwF8
import Derived.Test.YtbndgoeahoadlaaDoorPwF3
import Derived.Test.YtbndgoeahoadlaaDoorPwG5
set_option linter.all false
namespace Go.Sh
open Go.PW Go.Proofs.YtbndgoeahoadlaaDoor
end Go.Sh
attribute [go_sem] Go.PW.Env.frzL Go.PW.Env.frz Go.PW.frzOb Go.PW.V.frz Go.PW.V.frz.frzs Go.PW.asD Go.PW.map_asD
