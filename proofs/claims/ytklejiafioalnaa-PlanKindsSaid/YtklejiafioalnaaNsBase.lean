import Derived.Test.YtklejiafioalnaaNsTy
import Derived.Test.YtklejiafioalnaaNsM
import Derived.Test.YtklejiafioalnaaNsA
import Derived.Test.YtklejiafioalnaaNsS
import Derived.Test.YtklejiafioalnaaPwZ
import Derived.Test.YtklejiafioalnaaPwBl
import Derived.Test.YtklejiafioalnaaPwF7
import Derived.Test.YtklejiafioalnaaPwF8
import Derived.Test.YtklejiafioalnaaPwF3
import Derived.Test.YtklejiafioalnaaPwG5
set_option linter.all false
namespace Go.PW
@[go_sem] theorem seg7 {α : Type} (a b c d e f g : α) : seg [a, b, c, d, e, f, g] 0 7 = [a, b, c, d, e, f, g] := rfl
@[go_sem] theorem okAll_segD7 (objs : List Ob) (k : Nat) (l : List D) (x0 x1 x2 x3 x4 x5 x6 : D) (a n : Nat) : okAll objs k (seg (l.map V.d ++ [V.d x0, V.d x1, V.d x2, V.d x3, V.d x4, V.d x5, V.d x6]) a n) = True :=
  okAll_segD2 objs k l [x0, x1, x2, x3, x4, x5, x6] a n
theorem takeFlatSet {α : Type} (F : α → List D) (k : Nat) (hF : ∀ x, (F x).length = k) (l : List α) (i : Nat) (y : α) : ((l.set i y).flatMap F).take (l.length * k) = (l.set i y).flatMap F := by
  refine List.take_of_length_le ?_
  rw [flatMap_length k F hF, List.length_set]; exact Nat.le_refl _
@[go_sem] theorem subV1 (cells : List V) (k : Nat) : subV cells k 1 = [cells.getD k vdef] := by simp [subV, List.range_succ]
end Go.PW
namespace Go.Sh
open Go.PW Go.Proofs.Ytklejiafioalnaa
end Go.Sh
attribute [go_sem] Go.PW.Env.frzL Go.PW.Env.frz Go.PW.frzOb Go.PW.V.frz Go.PW.V.frz.frzs Go.PW.asD Go.PW.map_asD
