import Derived.Test.YtbndgoeahoadlaaGreatDoorPlD
set_option linter.all false
namespace Go.Sh
open Go.PW
abbrev TB := ByteArray × Int × Int × Int × Int × Int × Int × Int × Int
abbrev TU := ByteArray × Int × Int × Int × Int × Int × Int × Int × Int × Int × Int × Int × Int × Int
abbrev Ph := Int × Int × Int × Int × Int × Int × Int
/-- slices.Clone -/
def slices_Clone_pp (N : Nat) (s : List Ph) : Option (List Ph) := chk (s.length ≤ 1000000000) <| some s
/-- The fixed examples. -/
def law07_awake (_N : Nat) : Option Bool := some true
end Go.Sh
