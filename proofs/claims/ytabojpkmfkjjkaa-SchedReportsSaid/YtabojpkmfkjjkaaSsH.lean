import Derived.Test.YtabojpkmfkjjkaaPlD
set_option linter.all false
namespace Go.Sh
open Go.PW
abbrev TB := ByteArray × Int × Int × Int × Int × Int × Int × Int × Int
abbrev TU := ByteArray × Int × Int × Int × Int × Int × Int × Int × Int × Int × Int × Int × Int × Int
/-- slices.Clone -/
def z3 (N : Nat) (s : List Int) : Option (List Int) := chk (s.length ≤ 1000000000) <| some s
def s6 (N : Nat) (s : List (ByteArray × Int × Int × Int × Int × Int × Int × Int × Int)) : Option (List (ByteArray × Int × Int × Int × Int × Int × Int × Int × Int)) := chk (s.length ≤ 1000000000) <| some s
end Go.Sh
