import Derived.Test.YtbndgoeahoadlaaGreatDoorAsTy
import Derived.Test.YtbndgoeahoadlaaGreatDoorAsM
import Derived.Test.YtbndgoeahoadlaaGreatDoorAsA
import Derived.Test.YtbndgoeahoadlaaGreatDoorAsS
import Derived.Test.YtbndgoeahoadlaaGreatDoorPwZ
import Derived.Test.YtbndgoeahoadlaaGreatDoorPwBl
import Derived.Test.YtbndgoeahoadlaaGreatDoorPwF3
import Derived.Test.YtbndgoeahoadlaaGreatDoorPwG5
set_option linter.all false
namespace Go.PW
theorem c9 {ro : Option Nat} {P : Program} {l : List Oper} {Q : Exit → Env → Prop} {env : Env} {id : Nat} (S : List Nat) (h : match PW.pre P (l.map (·.dst)) S l env with | (c, env', []) => c ∧ Q .normal env' | _ => False) : PW ro P (.region id l.toArray false) Q env := by
  refine d6 fun K hK => OW.run S ?_
  revert h
  generalize PW.pre P (l.map (·.dst)) S l env = x
  obtain ⟨c, env', rest⟩ := x
  cases rest with
  | nil => exact fun h => ⟨h.1, OW.nil (hK _ h.2)⟩
  | cons o r => exact fun h => h.elim
end Go.PW
namespace Go.Sh
open Go.PW Go.Proofs.YtbndgoeahoadlaaGreatDoor
@[go_sem] theorem w64_add21 : w64 ((2 : Int) + (1 : Int)) = 3 := by rw [n4 (by omega)]; rfl
@[go_sem] theorem w64_add31 : w64 ((3 : Int) + (1 : Int)) = 4 := by rw [n4 (by omega)]; rfl
@[go_sem] theorem w64_add41 : w64 ((4 : Int) + (1 : Int)) = 5 := by rw [n4 (by omega)]; rfl
@[go_sem] theorem w64_add51 : w64 ((5 : Int) + (1 : Int)) = 6 := by rw [n4 (by omega)]; rfl
@[go_sem] theorem w64_add61 : w64 ((6 : Int) + (1 : Int)) = 7 := by rw [n4 (by omega)]; rfl
@[go_sem] theorem w64_add71 : w64 ((7 : Int) + (1 : Int)) = 8 := by rw [n4 (by omega)]; rfl
@[go_sem] theorem w64_add81 : w64 ((8 : Int) + (1 : Int)) = 9 := by rw [n4 (by omega)]; rfl
@[go_sem] theorem w64_k0 : w64 (0 : Int) = 0 := n4 (by omega)
@[go_sem] theorem w64_k1 : w64 (1 : Int) = 1 := n4 (by omega)
@[go_sem] theorem w64_k2 : w64 (2 : Int) = 2 := n4 (by omega)
@[go_sem] theorem w64_k3 : w64 (3 : Int) = 3 := n4 (by omega)
@[go_sem] theorem w64_k4 : w64 (4 : Int) = 4 := n4 (by omega)
@[go_sem] theorem w64_k5 : w64 (5 : Int) = 5 := n4 (by omega)
@[go_sem] theorem w64_k6 : w64 (6 : Int) = 6 := n4 (by omega)
@[go_sem] theorem w64_k7 : w64 (7 : Int) = 7 := n4 (by omega)
@[go_sem] theorem w64_k8 : w64 (8 : Int) = 8 := n4 (by omega)
@[go_sem] theorem w64_k9 : w64 (9 : Int) = 9 := n4 (by omega)
@[go_sem] theorem gval0 : gval 0 = .d (.ref [Bo false, Bo false, Bo false, Bo false, Bo true, Bo false, Bo true, Bo true, Bo false, Bo true, Bo true, Bo true, Bo false, Bo false, Bo true, Bo true, Bo false, Bo true, Bo false, Bo false, Bo false, Bo false, Bo false, Bo true]) := by rfl
end Go.Sh
attribute [go_sem] Go.PW.Env.frzL Go.PW.Env.frz Go.PW.frzOb Go.PW.V.frz Go.PW.V.frz.frzs Go.PW.asD Go.PW.map_asD
namespace Go.Sh
open Go.PW
@[go_sem] theorem j3 (objs : List Ob) (k : Nat) (l : List D) (x0 x1 x2 x3 x4 x5 x6 : D) (a n : Nat) : okAll objs k (seg (l.map V.d ++ [V.d x0, V.d x1, V.d x2, V.d x3, V.d x4, V.d x5, V.d x6]) a n) = True :=
  okAll_segD2 objs k l [x0, x1, x2, x3, x4, x5, x6] a n
end Go.Sh

namespace Go.PW
/-- A pointer to a cell, of more cells that are told. -/
theorem RetOK.refCut {env : Env} {v : V} {x : D} {l : List D} (h : RetOK env v (.d (.ref (x :: l))) []) : RetOK env v (.d (.ref [x])) [] := by
  intro B w0 S0 φ a w hr u hu
  obtain ⟨φ', h1, h2⟩ := h B w0 S0 φ a w hr u hu
  refine ⟨φ', ?_, h2⟩
  simp only [RepV, RepD] at h1 ⊢
  obtain ⟨b, o, e, hc⟩ := h1
  simp only [RepCells] at hc ⊢
  exact ⟨b, o, e, hc.1, trivial⟩
end Go.PW
namespace Go.Sh
open Go.PW
theorem p6 {α : Type} (X : List α) (k : Nat) (V d : α) (h : k < X.length) : (X.set k V).getD k d = V := by simp [List.getD_eq_getElem?_getD, h]
@[go_sem] theorem map_pair_id {α β : Type} (G : List (α × β)) : G.map (fun x => (x.1, x.2)) = G := by
  induction G with
  | nil => rfl
  | cons a l ih => rw [List.map_cons, ih]
end Go.Sh
namespace Go.Proofs.YtbndgoeahoadlaaGreatDoor
open Go.PW Go.Sh
set_option maxRecDepth 1000000
theorem kindOf_0 : CallOK Tryz.prog 122 [.val (.int .i64 0)] (.d (.agg [.val (.string ⟨#[115, 101, 110, 100]⟩), .list 2 [.val (.int .i64 0), .val (.int .i64 1)], .clo 147 []])) [] := D7 (fr := false) okA 3000 (by kernel_rfl)
theorem kindOf_1 : CallOK Tryz.prog 122 [.val (.int .i64 1)] (.d (.agg [.val (.string ⟨#[97, 110, 115, 119, 101, 114]⟩), .list 2 [.val (.int .i64 1), .val (.int .i64 2)], .clo 148 []])) [] := D7 (fr := false) okA 3000 (by kernel_rfl)
theorem kindOf_2 : CallOK Tryz.prog 122 [.val (.int .i64 2)] (.d (.agg [.val (.string ⟨#[114, 101, 115, 111, 108, 118, 101]⟩), .list 2 [.val (.int .i64 3), .val (.int .i64 0)], .clo 149 []])) [] := D7 (fr := false) okA 3000 (by kernel_rfl)
theorem kindOf_3 : CallOK Tryz.prog 122 [.val (.int .i64 3)] (.d (.agg [.val (.string ⟨#[114, 101, 108, 101, 97, 115, 101]⟩), .list 1 [.val (.int .i64 0)], .clo 150 []])) [] := D7 (fr := false) okA 3000 (by kernel_rfl)
theorem kindOf_4 : CallOK Tryz.prog 122 [.val (.int .i64 4)] (.d (.agg [.val (.string ⟨#[112, 97, 115, 115]⟩), .list 0 [], .clo 151 []])) [] := D7 (fr := false) okA 3000 (by kernel_rfl)
end Go.Proofs.YtbndgoeahoadlaaGreatDoor
