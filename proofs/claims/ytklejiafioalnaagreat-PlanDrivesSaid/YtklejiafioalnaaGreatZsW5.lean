import Derived.Test.YtklejiafioalnaaGreatZsBase
import Derived.Test.YtklejiafioalnaaGreatZsW0
import Derived.Test.YtklejiafioalnaaGreatZsW1
import Derived.Test.YtklejiafioalnaaGreatZsW2
import Derived.Test.YtklejiafioalnaaGreatZsW3
import Derived.Test.YtklejiafioalnaaGreatZsW4
set_option linter.all false
namespace Go.Proofs.YtklejiafioalnaaGreat
open Go.PW Go.Sh

end Go.Proofs.YtklejiafioalnaaGreat
