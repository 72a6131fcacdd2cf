import Derived.Test.YtikelkndldaejaaCsTy
import Derived.Test.YtikelkndldaejaaCsM
import Derived.Test.YtikelkndldaejaaCsS
import Derived.Test.YtikelkndldaejaaPwZ
import Derived.Test.YtikelkndldaejaaCsBl
set_option linter.all false
namespace Go.Sh
open Go.PW Go.Proofs.Ytikelkndldaejaa
end Go.Sh
