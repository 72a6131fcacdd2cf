import Derived.Test.YtklejiafioalnaaPlD
set_option linter.all false
namespace Go.Sh
open Go.PW
abbrev TB := ByteArray × Int × Int × Int × Int × Int × Int × Int × Int
abbrev TU := ByteArray × Int × Int × Int × Int × Int × Int × Int × Int × Int × Int × Int × Int × Int
/-- slices.Clone -/
def slices_Clone_ii (N : Nat) (s : List Int) : Option (List Int) := chk (s.length ≤ 1000000000) <| some s
/-- The fixed examples. -/
def law09_awake (_N : Nat) : Option Bool := some true
end Go.Sh
