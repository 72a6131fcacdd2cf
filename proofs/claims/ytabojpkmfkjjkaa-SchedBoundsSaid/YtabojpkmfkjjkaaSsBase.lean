import Derived.Test.YtabojpkmfkjjkaaSsTy
import Derived.Test.YtabojpkmfkjjkaaSsM
import Derived.Test.YtabojpkmfkjjkaaSsS
import Derived.Test.YtabojpkmfkjjkaaPwZ
import Derived.Test.YtabojpkmfkjjkaaPwBl
import Derived.Test.YtabojpkmfkjjkaaSsF
import Derived.Test.YtabojpkmfkjjkaaPwF5
import Derived.Test.YtabojpkmfkjjkaaSsD
set_option linter.all false
namespace Go.Sh
open Go.PW Go.Proofs.Ytabojpkmfkjjkaa
end Go.Sh
