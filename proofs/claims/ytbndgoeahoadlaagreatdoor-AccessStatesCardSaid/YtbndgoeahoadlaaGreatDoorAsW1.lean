import Derived.Test.YtbndgoeahoadlaaGreatDoorAsBase
import Derived.Test.YtbndgoeahoadlaaGreatDoorAsW0
set_option linter.all false
namespace Go.Proofs.YtbndgoeahoadlaaGreatDoor
open Go.PW Go.Sh

end Go.Proofs.YtbndgoeahoadlaaGreatDoor
