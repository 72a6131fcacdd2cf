import Derived.Test.YtbndgoeahoadlaaGreatDoorAsBase
set_option linter.all false
namespace Go.Sh
open Go.PW
@[go_sem] theorem okAll_segD7 (objs : List Ob) (k : Nat) (l : List D) (x0 x1 x2 x3 x4 x5 x6 : D) (a n : Nat) : okAll objs k (seg (l.map V.d ++ [V.d x0, V.d x1, V.d x2, V.d x3, V.d x4, V.d x5, V.d x6]) a n) = True :=
  okAll_segD2 objs k l [x0, x1, x2, x3, x4, x5, x6] a n
end Go.Sh
