import Derived.Test.YtbndgoeahoadlaaGreatDoorAsBase
set_option linter.all false
namespace Go.Sh
open Go.PW
@[go_sem] theorem okAll_segD7 (objs : List Ob) (k : Nat) (l : List D) (x0 x1 x2 x3 x4 x5 x6 : D) (a n : Nat) : okAll objs k (seg (l.map V.d ++ [V.d x0, V.d x1, V.d x2, V.d x3, V.d x4, V.d x5, V.d x6]) a n) = True :=
  okAll_segD2 objs k l [x0, x1, x2, x3, x4, x5, x6] a n
end Go.Sh

namespace Go.PW
/-- A pointer to a cell, of more cells that are told. -/
theorem RetOK.refCut {env : Env} {v : V} {x : D} {l : List D} (h : RetOK env v (.d (.ref (x :: l))) []) : RetOK env v (.d (.ref [x])) [] := by
  intro B w0 S0 φ a w hr u hu
  obtain ⟨φ', h1, h2⟩ := h B w0 S0 φ a w hr u hu
  refine ⟨φ', ?_, h2⟩
  simp only [RepV, RepD] at h1 ⊢
  obtain ⟨b, o, e, hc⟩ := h1
  simp only [RepCells] at hc ⊢
  exact ⟨b, o, e, hc.1, trivial⟩
end Go.PW
