/-
 Tactics of walks with families of blocks. For every program.
-/
import Derived.Test.YtabojpkmfkjjkaaPwF2
set_option linter.all false
namespace Go.PW
open Go.RowKit
theorem famN_snoc' {α : Type} [Inhabited α] (F : α → Ob) (us : List α) (x : α) : l6 (us.length + 1) F (us ++ [x]) = l6 us.length F us ++ [F x] := by
 have := famN_snoc F us x
 rw [List.length_append, List.length_singleton] at this
 exact this.symm
theorem famN_zero {α : Type} [Inhabited α] (F : α → Ob) (us : List α) : l6 0 F us = [] := rfl
theorem ctrP_succ (b n : Nat) : p9 b (n + 1) = p9 b n ++ [.ptr (n + b) 0] := (ctrP_snoc b n).symm
attribute [go_sem] famN_snoc' famN_zero ctrP_succ ctrP_kill ctrP_killHi ctrP_cut ptrO_nil ptrO_nat
theorem subV6 (cells : List V) (k : Nat) : subV cells k 6 = [cells.getD k j6, cells.getD (k + 1) j6, cells.getD (k + 2) j6, cells.getD (k + 3) j6, cells.getD (k + 4) j6, cells.getD (k + 5) j6] := by simp [subV, List.range_succ]
theorem sub6 (cells : List D) (k : Nat) : sub cells k 6 = [cells.getD k default, cells.getD (k + 1) default, cells.getD (k + 2) default, cells.getD (k + 3) default, cells.getD (k + 4) default, cells.getD (k + 5) default] := by simp [sub, List.range_succ]
theorem subV7 (cells : List V) (k : Nat) : subV cells k 7 = [cells.getD k j6, cells.getD (k + 1) j6, cells.getD (k + 2) j6, cells.getD (k + 3) j6, cells.getD (k + 4) j6, cells.getD (k + 5) j6, cells.getD (k + 6) j6] := by simp [subV, List.range_succ]
theorem sub7 (cells : List D) (k : Nat) : sub cells k 7 = [cells.getD k default, cells.getD (k + 1) default, cells.getD (k + 2) default, cells.getD (k + 3) default, cells.getD (k + 4) default, cells.getD (k + 5) default, cells.getD (k + 6) default] := by simp [sub, List.range_succ]
theorem subV8 (cells : List V) (k : Nat) : subV cells k 8 = [cells.getD k j6, cells.getD (k + 1) j6, cells.getD (k + 2) j6, cells.getD (k + 3) j6, cells.getD (k + 4) j6, cells.getD (k + 5) j6, cells.getD (k + 6) j6, cells.getD (k + 7) j6] := by simp [subV, List.range_succ]
theorem sub8 (cells : List D) (k : Nat) : sub cells k 8 = [cells.getD k default, cells.getD (k + 1) default, cells.getD (k + 2) default, cells.getD (k + 3) default, cells.getD (k + 4) default, cells.getD (k + 5) default, cells.getD (k + 6) default, cells.getD (k + 7) default] := by simp [sub, List.range_succ]
theorem subV9 (cells : List V) (k : Nat) : subV cells k 9 = [cells.getD k j6, cells.getD (k + 1) j6, cells.getD (k + 2) j6, cells.getD (k + 3) j6, cells.getD (k + 4) j6, cells.getD (k + 5) j6, cells.getD (k + 6) j6, cells.getD (k + 7) j6, cells.getD (k + 8) j6] := by simp [subV, List.range_succ]
theorem sub9 (cells : List D) (k : Nat) : sub cells k 9 = [cells.getD k default, cells.getD (k + 1) default, cells.getD (k + 2) default, cells.getD (k + 3) default, cells.getD (k + 4) default, cells.getD (k + 5) default, cells.getD (k + 6) default, cells.getD (k + 7) default, cells.getD (k + 8) default] := by simp [sub, List.range_succ]
theorem subV10 (cells : List V) (k : Nat) : subV cells k 10 = [cells.getD k j6, cells.getD (k + 1) j6, cells.getD (k + 2) j6, cells.getD (k + 3) j6, cells.getD (k + 4) j6, cells.getD (k + 5) j6, cells.getD (k + 6) j6, cells.getD (k + 7) j6, cells.getD (k + 8) j6, cells.getD (k + 9) j6] := by simp [subV, List.range_succ]
theorem sub10 (cells : List D) (k : Nat) : sub cells k 10 = [cells.getD k default, cells.getD (k + 1) default, cells.getD (k + 2) default, cells.getD (k + 3) default, cells.getD (k + 4) default, cells.getD (k + 5) default, cells.getD (k + 6) default, cells.getD (k + 7) default, cells.getD (k + 8) default, cells.getD (k + 9) default] := by simp [sub, List.range_succ]
theorem subV11 (cells : List V) (k : Nat) : subV cells k 11 = [cells.getD k j6, cells.getD (k + 1) j6, cells.getD (k + 2) j6, cells.getD (k + 3) j6, cells.getD (k + 4) j6, cells.getD (k + 5) j6, cells.getD (k + 6) j6, cells.getD (k + 7) j6, cells.getD (k + 8) j6, cells.getD (k + 9) j6, cells.getD (k + 10) j6] := by simp [subV, List.range_succ]
theorem sub11 (cells : List D) (k : Nat) : sub cells k 11 = [cells.getD k default, cells.getD (k + 1) default, cells.getD (k + 2) default, cells.getD (k + 3) default, cells.getD (k + 4) default, cells.getD (k + 5) default, cells.getD (k + 6) default, cells.getD (k + 7) default, cells.getD (k + 8) default, cells.getD (k + 9) default, cells.getD (k + 10) default] := by simp [sub, List.range_succ]
theorem subV12 (cells : List V) (k : Nat) : subV cells k 12 = [cells.getD k j6, cells.getD (k + 1) j6, cells.getD (k + 2) j6, cells.getD (k + 3) j6, cells.getD (k + 4) j6, cells.getD (k + 5) j6, cells.getD (k + 6) j6, cells.getD (k + 7) j6, cells.getD (k + 8) j6, cells.getD (k + 9) j6, cells.getD (k + 10) j6, cells.getD (k + 11) j6] := by simp [subV, List.range_succ]
theorem sub12 (cells : List D) (k : Nat) : sub cells k 12 = [cells.getD k default, cells.getD (k + 1) default, cells.getD (k + 2) default, cells.getD (k + 3) default, cells.getD (k + 4) default, cells.getD (k + 5) default, cells.getD (k + 6) default, cells.getD (k + 7) default, cells.getD (k + 8) default, cells.getD (k + 9) default, cells.getD (k + 10) default, cells.getD (k + 11) default] := by simp [sub, List.range_succ]
theorem subV13 (cells : List V) (k : Nat) : subV cells k 13 = [cells.getD k j6, cells.getD (k + 1) j6, cells.getD (k + 2) j6, cells.getD (k + 3) j6, cells.getD (k + 4) j6, cells.getD (k + 5) j6, cells.getD (k + 6) j6, cells.getD (k + 7) j6, cells.getD (k + 8) j6, cells.getD (k + 9) j6, cells.getD (k + 10) j6, cells.getD (k + 11) j6, cells.getD (k + 12) j6] := by simp [subV, List.range_succ]
theorem sub13 (cells : List D) (k : Nat) : sub cells k 13 = [cells.getD k default, cells.getD (k + 1) default, cells.getD (k + 2) default, cells.getD (k + 3) default, cells.getD (k + 4) default, cells.getD (k + 5) default, cells.getD (k + 6) default, cells.getD (k + 7) default, cells.getD (k + 8) default, cells.getD (k + 9) default, cells.getD (k + 10) default, cells.getD (k + 11) default, cells.getD (k + 12) default] := by simp [sub, List.range_succ]
theorem subV14 (cells : List V) (k : Nat) : subV cells k 14 = [cells.getD k j6, cells.getD (k + 1) j6, cells.getD (k + 2) j6, cells.getD (k + 3) j6, cells.getD (k + 4) j6, cells.getD (k + 5) j6, cells.getD (k + 6) j6, cells.getD (k + 7) j6, cells.getD (k + 8) j6, cells.getD (k + 9) j6, cells.getD (k + 10) j6, cells.getD (k + 11) j6, cells.getD (k + 12) j6, cells.getD (k + 13) j6] := by simp [subV, List.range_succ]
theorem sub14 (cells : List D) (k : Nat) : sub cells k 14 = [cells.getD k default, cells.getD (k + 1) default, cells.getD (k + 2) default, cells.getD (k + 3) default, cells.getD (k + 4) default, cells.getD (k + 5) default, cells.getD (k + 6) default, cells.getD (k + 7) default, cells.getD (k + 8) default, cells.getD (k + 9) default, cells.getD (k + 10) default, cells.getD (k + 11) default, cells.getD (k + 12) default, cells.getD (k + 13) default] := by simp [sub, List.range_succ]
theorem subV15 (cells : List V) (k : Nat) : subV cells k 15 = [cells.getD k j6, cells.getD (k + 1) j6, cells.getD (k + 2) j6, cells.getD (k + 3) j6, cells.getD (k + 4) j6, cells.getD (k + 5) j6, cells.getD (k + 6) j6, cells.getD (k + 7) j6, cells.getD (k + 8) j6, cells.getD (k + 9) j6, cells.getD (k + 10) j6, cells.getD (k + 11) j6, cells.getD (k + 12) j6, cells.getD (k + 13) j6, cells.getD (k + 14) j6] := by simp [subV, List.range_succ]
theorem sub15 (cells : List D) (k : Nat) : sub cells k 15 = [cells.getD k default, cells.getD (k + 1) default, cells.getD (k + 2) default, cells.getD (k + 3) default, cells.getD (k + 4) default, cells.getD (k + 5) default, cells.getD (k + 6) default, cells.getD (k + 7) default, cells.getD (k + 8) default, cells.getD (k + 9) default, cells.getD (k + 10) default, cells.getD (k + 11) default, cells.getD (k + 12) default, cells.getD (k + 13) default, cells.getD (k + 14) default] := by simp [sub, List.range_succ]
theorem subV16 (cells : List V) (k : Nat) : subV cells k 16 = [cells.getD k j6, cells.getD (k + 1) j6, cells.getD (k + 2) j6, cells.getD (k + 3) j6, cells.getD (k + 4) j6, cells.getD (k + 5) j6, cells.getD (k + 6) j6, cells.getD (k + 7) j6, cells.getD (k + 8) j6, cells.getD (k + 9) j6, cells.getD (k + 10) j6, cells.getD (k + 11) j6, cells.getD (k + 12) j6, cells.getD (k + 13) j6, cells.getD (k + 14) j6, cells.getD (k + 15) j6] := by simp [subV, List.range_succ]
theorem sub16 (cells : List D) (k : Nat) : sub cells k 16 = [cells.getD k default, cells.getD (k + 1) default, cells.getD (k + 2) default, cells.getD (k + 3) default, cells.getD (k + 4) default, cells.getD (k + 5) default, cells.getD (k + 6) default, cells.getD (k + 7) default, cells.getD (k + 8) default, cells.getD (k + 9) default, cells.getD (k + 10) default, cells.getD (k + 11) default, cells.getD (k + 12) default, cells.getD (k + 13) default, cells.getD (k + 14) default, cells.getD (k + 15) default] := by simp [sub, List.range_succ]
attribute [go_sem] subV6 sub6 subV7 sub7 subV8 sub8 subV9 sub9 subV10 sub10 subV11 sub11 subV12 sub12 subV13 sub13 subV14 sub14 subV15 sub15 subV16 sub16
theorem allOne_mapF {α : Type} (f : α → D) (h : ∀ x, oneV (.d (f x)) = true) (t : List α) : ((t.map f).map V.d).all oneV = true := by induction t with | nil => rfl | cons x l ih => simp [ih, h]
theorem allOne_flatF {α : Type} (f : α → List D) (h : ∀ x, ((f x).map V.d).all oneV = true) (t : List α) : ((t.flatMap f).map V.d).all oneV = true := by
 induction t with
 | nil => rfl
 | cons x l ih => rw [List.flatMap_cons, List.map_append, List.all_append, h, ih]; rfl
theorem slice_lenF {α : Type} (f : α → List D) (t : List α) (n : Nat) (h : n = t.length) : D.list n (t.flatMap f) = D.list t.length (t.flatMap f) := by rw [h]
theorem FW.toS {ro : Option Nat} {P : Program} {ops : Array Oper} {all l l2 : List Oper} {env : Env} {K : Env → Prop} (T : List (Nat × V)) (O : List Ob) (h : ∀ K' : Env → Prop, K' ⟨env.nt, T, O, env.gs, env.th⟩ → FW P ops l env fun env' => OW ro P all l2 env' K')
  (hK : K ⟨env.nt, T, O, env.gs, env.th⟩) : FW P ops l env fun env' => OW ro P all l2 env' K := h K hK
theorem cutO {b n c : Nat} {i : Int} (h : i < (n : Int)) (hb : b ≤ c) : V.cut (n + c) (ptrO b i) = ptrO b i := by
 by_cases hi : i < 0
 · rw [ptrO_neg hi]; rfl
 · rw [ptrO_pos (by omega)]; simp only [V.cut]; rw [if_pos (by omega)]
section
variable {ro : Option Nat} {P : Program} {all : List Oper} {env : Env} {K : Env → Prop}
theorem n2 {ops : Array Oper} {o : Oper} {rest : List Oper} {fo : Operand} {xs : Array Operand} {ts : Array TypeId} {f : FuncId} {caps vs : List V} {ds : List D} {x : D} {gd : Nat × Bool} {g : Bool} (k : Nat)
  (ho : o.op = .call { callee := .value fo, args := xs, argTypes := ts }) (hg : o.guard = some gd) (hgc : guardC (ops.toList.map (·.dst)) env.tmps (some gd) = some g)
  (hf : g = true → cloOf (ev (env.under g) fo) = some (f, caps)) (hvs : g = true → xs.toList.map (ev (env.under g)) ++ caps = vs)
  (hds : g = true → vs.map (toD env.objs k) = ds) (hcall : g = true → CallOK P f ds (.d x) []) (hok : g = true → ∀ v ∈ vs, okD env.objs k v) (hcl : vs.all noO = true ∨ cleanV (.d x) = true) (hd : l9 env o.dst)
  (h : FW P ops rest (putO env o.dst (.guarded g (.d x))) K) : FW P ops (o :: rest) env K :=
 FW.callG ho hg hgc hf (fun hgt => by rw [hvs hgt]; exact ⟨k, hok hgt, by rw [hds hgt]; exact hcall hgt, hcl.imp id fun h => ⟨h, rfl⟩⟩) hd h
end
end Go.PW
