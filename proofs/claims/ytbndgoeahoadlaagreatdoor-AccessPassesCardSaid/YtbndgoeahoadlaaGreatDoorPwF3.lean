import Derived.Test.YtbndgoeahoadlaaGreatDoorPwZ
set_option linter.all false
namespace Go.PW
open Go.RowKit
end Go.PW

set_option maxHeartbeats 1000000
namespace Go.PW
open Go.RowKit
section
variable {P : Program} {Q : Exit → Env → Prop} {env : Env}
end
end Go.PW

namespace Go.PW
open Go.RowKit

def famN {α : Type} [Inhabited α] (n : Nat) (F : α → Ob) (us : List α) : List Ob := (List.range n).map fun k => F (us.getD k default)
section
variable {α : Type} [Inhabited α] {n : Nat} {F : α → Ob} {us : List α} {R : List Ob}
theorem C9 : (famN n F us).length = n := by simp [famN]
theorem famN_hi (n : Nat) (F : α → Ob) (us : List α) (R : List Ob) (k : Nat) : (famN n F us ++ R)[n + k]? = R[k]? := by
 rw [List.getElem?_append_right (by rw [C9]; omega), C9]; congr 1; omega
theorem famN_hi0 (n : Nat) (F : α → Ob) (us : List α) (R : List Ob) : (famN n F us ++ R)[n]? = R[0]? := famN_hi n F us R 0
theorem famN_setHi (n : Nat) (F : α → Ob) (us : List α) (R : List Ob) (k : Nat) (x : Ob) : (famN n F us ++ R).set (n + k) x = famN n F us ++ R.set k x := by
 rw [List.set_append_right _ _ (by rw [C9]; omega), C9]; congr 2; omega
theorem famN_setHi0 (n : Nat) (F : α → Ob) (us : List α) (R : List Ob) (x : Ob) : (famN n F us ++ R).set n x = famN n F us ++ R.set 0 x := famN_setHi n F us R 0 x
theorem famN_snoc (F : α → Ob) (us : List α) (x : α) : famN us.length F us ++ [F x] = famN (us ++ [x]).length F (us ++ [x]) := by
 refine List.ext_getElem (by simp [famN]) fun j h1 h2 => ?_
 simp only [famN, List.length_append, List.length_map, List.length_range, List.length_cons, List.length_nil, Nat.zero_add] at h1 h2
 by_cases e : j < us.length
 · rw [List.getElem_append_left (by simpa [famN] using e)]; simp [famN, List.getElem?_append_left e]
 ·
  have : j = us.length := by omega
  subst this; simp [famN]
theorem famN_take (n : Nat) (F : α → Ob) (us : List α) (R : List Ob) (j : Nat) : (famN n F us ++ R).take (n + j) = famN n F us ++ R.take j := by
 rw [List.take_append, C9, List.take_of_length_le (by rw [C9]; omega)]; congr 2; omega
theorem famN_take0 (n : Nat) (F : α → Ob) (us : List α) (R : List Ob) : (famN n F us ++ R).take n = famN n F us := by have := famN_take n F us R 0; simpa using this
theorem famN_takeAll (n : Nat) (F : α → Ob) (us : List α) : (famN n F us).take n = famN n F us := List.take_of_length_le (by rw [C9]; exact Nat.le_refl _)

end

def ctrP (b n : Nat) : List V := (List.range n).map fun k => V.ptr (k + b) 0
theorem ctrP_length (b n : Nat) : (ctrP b n).length = n := by simp [ctrP]
theorem ctrP_one (b n : Nat) : (ctrP b n).all oneV = true := by
 rw [List.all_eq_true]; intro v hv; obtain ⟨k, _, rfl⟩ := List.mem_map.1 hv; rfl
theorem ctrP_map (b n : Nat) (g : V → V) (hg : ∀ k, k < n → g (.ptr (k + b) 0) = .ptr (k + b) 0) : (ctrP b n).map g = ctrP b n := by
 rw [ctrP, List.map_map]; exact List.map_congr_left fun k hk => hg k (List.mem_range.1 hk)
theorem ctrP_kill (b n i : Nat) (h : i < b) : (ctrP b n).map (V.kill i) = ctrP b n := ctrP_map b n _ fun k _ => by simp only [V.kill]; rw [if_neg (by omega)]
theorem ctrP_killHi (b n i : Nat) (h : n + b ≤ i) : (ctrP b n).map (V.kill i) = ctrP b n := ctrP_map b n _ fun k hk => by simp only [V.kill]; rw [if_neg (by omega)]
theorem ctrP_cut (b n m : Nat) (h : n + b ≤ m) : (ctrP b n).map (V.cut m) = ctrP b n := ctrP_map b n _ fun k hk => by simp only [V.cut]; rw [if_pos (by omega)]
theorem ctrP_snoc (b n : Nat) : ctrP b n ++ [.ptr (n + b) 0] = ctrP b (n + 1) := by simp [ctrP, List.range_succ]
theorem ctrP_nil (b : Nat) : ctrP b 0 = [] := rfl

def ptrO (b : Nat) (i : Int) : V := if i < 0 then .d (.val (.pointer none)) else .ptr (i.toNat + b) 0
theorem ptrO_pos {b : Nat} {i : Int} (h : 0 ≤ i) : ptrO b i = .ptr (i.toNat + b) 0 := if_neg (by omega)
theorem ptrO_nat (b k : Nat) : ptrO b (k : Int) = .ptr (k + b) 0 := by rw [ptrO_pos (by omega), Int.toNat_natCast]
theorem ptrO_nil (b : Nat) : ptrO b (-1) = .d (.val (.pointer none)) := rfl
theorem ctrP_seg (b n : Nat) : seg (ctrP b n) 0 n = ctrP b n := by rw [seg, List.drop_zero]; exact List.take_of_length_le (by rw [ctrP_length]; exact Nat.le_refl _)
attribute [go_sem] C9 famN_hi famN_hi0 famN_setHi famN_setHi0 famN_take famN_take0 famN_takeAll ctrP_length ctrP_one ctrP_seg ctrP_nil
end Go.PW

namespace Go.PW
open Go.RowKit
section
variable {ro : Option Nat} {P : Program} {Q : Exit → Env → Prop} {c : Code} {env : Env} {σ R τ : Type}
end
end Go.PW

namespace Go.PW
open Go.RowKit
theorem famN_snoc' {α : Type} [Inhabited α] (F : α → Ob) (us : List α) (x : α) : famN (us.length + 1) F (us ++ [x]) = famN us.length F us ++ [F x] := by
 have := famN_snoc F us x
 rw [List.length_append, List.length_singleton] at this
 exact this.symm
theorem famN_zero {α : Type} [Inhabited α] (F : α → Ob) (us : List α) : famN 0 F us = [] := rfl
theorem ctrP_succ (b n : Nat) : ctrP b (n + 1) = ctrP b n ++ [.ptr (n + b) 0] := (ctrP_snoc b n).symm
attribute [go_sem] famN_snoc' famN_zero ctrP_succ ctrP_kill ctrP_killHi ctrP_cut ptrO_nil ptrO_nat
theorem subV6 (cells : List V) (k : Nat) : subV cells k 6 = [cells.getD k n5, cells.getD (k + 1) n5, cells.getD (k + 2) n5, cells.getD (k + 3) n5, cells.getD (k + 4) n5, cells.getD (k + 5) n5] := by simp [subV, List.range_succ]
theorem sub6 (cells : List D) (k : Nat) : sub cells k 6 = [cells.getD k default, cells.getD (k + 1) default, cells.getD (k + 2) default, cells.getD (k + 3) default, cells.getD (k + 4) default, cells.getD (k + 5) default] := by simp [sub, List.range_succ]
theorem subV7 (cells : List V) (k : Nat) : subV cells k 7 = [cells.getD k n5, cells.getD (k + 1) n5, cells.getD (k + 2) n5, cells.getD (k + 3) n5, cells.getD (k + 4) n5, cells.getD (k + 5) n5, cells.getD (k + 6) n5] := by simp [subV, List.range_succ]
theorem sub7 (cells : List D) (k : Nat) : sub cells k 7 = [cells.getD k default, cells.getD (k + 1) default, cells.getD (k + 2) default, cells.getD (k + 3) default, cells.getD (k + 4) default, cells.getD (k + 5) default, cells.getD (k + 6) default] := by simp [sub, List.range_succ]
theorem subV8 (cells : List V) (k : Nat) : subV cells k 8 = [cells.getD k n5, cells.getD (k + 1) n5, cells.getD (k + 2) n5, cells.getD (k + 3) n5, cells.getD (k + 4) n5, cells.getD (k + 5) n5, cells.getD (k + 6) n5, cells.getD (k + 7) n5] := by simp [subV, List.range_succ]
theorem sub8 (cells : List D) (k : Nat) : sub cells k 8 = [cells.getD k default, cells.getD (k + 1) default, cells.getD (k + 2) default, cells.getD (k + 3) default, cells.getD (k + 4) default, cells.getD (k + 5) default, cells.getD (k + 6) default, cells.getD (k + 7) default] := by simp [sub, List.range_succ]
theorem subV9 (cells : List V) (k : Nat) : subV cells k 9 = [cells.getD k n5, cells.getD (k + 1) n5, cells.getD (k + 2) n5, cells.getD (k + 3) n5, cells.getD (k + 4) n5, cells.getD (k + 5) n5, cells.getD (k + 6) n5, cells.getD (k + 7) n5, cells.getD (k + 8) n5] := by simp [subV, List.range_succ]
theorem sub9 (cells : List D) (k : Nat) : sub cells k 9 = [cells.getD k default, cells.getD (k + 1) default, cells.getD (k + 2) default, cells.getD (k + 3) default, cells.getD (k + 4) default, cells.getD (k + 5) default, cells.getD (k + 6) default, cells.getD (k + 7) default, cells.getD (k + 8) default] := by simp [sub, List.range_succ]
theorem subV10 (cells : List V) (k : Nat) : subV cells k 10 = [cells.getD k n5, cells.getD (k + 1) n5, cells.getD (k + 2) n5, cells.getD (k + 3) n5, cells.getD (k + 4) n5, cells.getD (k + 5) n5, cells.getD (k + 6) n5, cells.getD (k + 7) n5, cells.getD (k + 8) n5, cells.getD (k + 9) n5] := by simp [subV, List.range_succ]
theorem sub10 (cells : List D) (k : Nat) : sub cells k 10 = [cells.getD k default, cells.getD (k + 1) default, cells.getD (k + 2) default, cells.getD (k + 3) default, cells.getD (k + 4) default, cells.getD (k + 5) default, cells.getD (k + 6) default, cells.getD (k + 7) default, cells.getD (k + 8) default, cells.getD (k + 9) default] := by simp [sub, List.range_succ]
theorem subV11 (cells : List V) (k : Nat) : subV cells k 11 = [cells.getD k n5, cells.getD (k + 1) n5, cells.getD (k + 2) n5, cells.getD (k + 3) n5, cells.getD (k + 4) n5, cells.getD (k + 5) n5, cells.getD (k + 6) n5, cells.getD (k + 7) n5, cells.getD (k + 8) n5, cells.getD (k + 9) n5, cells.getD (k + 10) n5] := by simp [subV, List.range_succ]
theorem sub11 (cells : List D) (k : Nat) : sub cells k 11 = [cells.getD k default, cells.getD (k + 1) default, cells.getD (k + 2) default, cells.getD (k + 3) default, cells.getD (k + 4) default, cells.getD (k + 5) default, cells.getD (k + 6) default, cells.getD (k + 7) default, cells.getD (k + 8) default, cells.getD (k + 9) default, cells.getD (k + 10) default] := by simp [sub, List.range_succ]
theorem subV12 (cells : List V) (k : Nat) : subV cells k 12 = [cells.getD k n5, cells.getD (k + 1) n5, cells.getD (k + 2) n5, cells.getD (k + 3) n5, cells.getD (k + 4) n5, cells.getD (k + 5) n5, cells.getD (k + 6) n5, cells.getD (k + 7) n5, cells.getD (k + 8) n5, cells.getD (k + 9) n5, cells.getD (k + 10) n5, cells.getD (k + 11) n5] := by simp [subV, List.range_succ]
theorem sub12 (cells : List D) (k : Nat) : sub cells k 12 = [cells.getD k default, cells.getD (k + 1) default, cells.getD (k + 2) default, cells.getD (k + 3) default, cells.getD (k + 4) default, cells.getD (k + 5) default, cells.getD (k + 6) default, cells.getD (k + 7) default, cells.getD (k + 8) default, cells.getD (k + 9) default, cells.getD (k + 10) default, cells.getD (k + 11) default] := by simp [sub, List.range_succ]
theorem subV13 (cells : List V) (k : Nat) : subV cells k 13 = [cells.getD k n5, cells.getD (k + 1) n5, cells.getD (k + 2) n5, cells.getD (k + 3) n5, cells.getD (k + 4) n5, cells.getD (k + 5) n5, cells.getD (k + 6) n5, cells.getD (k + 7) n5, cells.getD (k + 8) n5, cells.getD (k + 9) n5, cells.getD (k + 10) n5, cells.getD (k + 11) n5, cells.getD (k + 12) n5] := by simp [subV, List.range_succ]
theorem sub13 (cells : List D) (k : Nat) : sub cells k 13 = [cells.getD k default, cells.getD (k + 1) default, cells.getD (k + 2) default, cells.getD (k + 3) default, cells.getD (k + 4) default, cells.getD (k + 5) default, cells.getD (k + 6) default, cells.getD (k + 7) default, cells.getD (k + 8) default, cells.getD (k + 9) default, cells.getD (k + 10) default, cells.getD (k + 11) default, cells.getD (k + 12) default] := by simp [sub, List.range_succ]
theorem subV14 (cells : List V) (k : Nat) : subV cells k 14 = [cells.getD k n5, cells.getD (k + 1) n5, cells.getD (k + 2) n5, cells.getD (k + 3) n5, cells.getD (k + 4) n5, cells.getD (k + 5) n5, cells.getD (k + 6) n5, cells.getD (k + 7) n5, cells.getD (k + 8) n5, cells.getD (k + 9) n5, cells.getD (k + 10) n5, cells.getD (k + 11) n5, cells.getD (k + 12) n5, cells.getD (k + 13) n5] := by simp [subV, List.range_succ]
theorem sub14 (cells : List D) (k : Nat) : sub cells k 14 = [cells.getD k default, cells.getD (k + 1) default, cells.getD (k + 2) default, cells.getD (k + 3) default, cells.getD (k + 4) default, cells.getD (k + 5) default, cells.getD (k + 6) default, cells.getD (k + 7) default, cells.getD (k + 8) default, cells.getD (k + 9) default, cells.getD (k + 10) default, cells.getD (k + 11) default, cells.getD (k + 12) default, cells.getD (k + 13) default] := by simp [sub, List.range_succ]
theorem subV15 (cells : List V) (k : Nat) : subV cells k 15 = [cells.getD k n5, cells.getD (k + 1) n5, cells.getD (k + 2) n5, cells.getD (k + 3) n5, cells.getD (k + 4) n5, cells.getD (k + 5) n5, cells.getD (k + 6) n5, cells.getD (k + 7) n5, cells.getD (k + 8) n5, cells.getD (k + 9) n5, cells.getD (k + 10) n5, cells.getD (k + 11) n5, cells.getD (k + 12) n5, cells.getD (k + 13) n5, cells.getD (k + 14) n5] := by simp [subV, List.range_succ]
theorem sub15 (cells : List D) (k : Nat) : sub cells k 15 = [cells.getD k default, cells.getD (k + 1) default, cells.getD (k + 2) default, cells.getD (k + 3) default, cells.getD (k + 4) default, cells.getD (k + 5) default, cells.getD (k + 6) default, cells.getD (k + 7) default, cells.getD (k + 8) default, cells.getD (k + 9) default, cells.getD (k + 10) default, cells.getD (k + 11) default, cells.getD (k + 12) default, cells.getD (k + 13) default, cells.getD (k + 14) default] := by simp [sub, List.range_succ]
theorem subV16 (cells : List V) (k : Nat) : subV cells k 16 = [cells.getD k n5, cells.getD (k + 1) n5, cells.getD (k + 2) n5, cells.getD (k + 3) n5, cells.getD (k + 4) n5, cells.getD (k + 5) n5, cells.getD (k + 6) n5, cells.getD (k + 7) n5, cells.getD (k + 8) n5, cells.getD (k + 9) n5, cells.getD (k + 10) n5, cells.getD (k + 11) n5, cells.getD (k + 12) n5, cells.getD (k + 13) n5, cells.getD (k + 14) n5, cells.getD (k + 15) n5] := by simp [subV, List.range_succ]
theorem sub16 (cells : List D) (k : Nat) : sub cells k 16 = [cells.getD k default, cells.getD (k + 1) default, cells.getD (k + 2) default, cells.getD (k + 3) default, cells.getD (k + 4) default, cells.getD (k + 5) default, cells.getD (k + 6) default, cells.getD (k + 7) default, cells.getD (k + 8) default, cells.getD (k + 9) default, cells.getD (k + 10) default, cells.getD (k + 11) default, cells.getD (k + 12) default, cells.getD (k + 13) default, cells.getD (k + 14) default, cells.getD (k + 15) default] := by simp [sub, List.range_succ]
attribute [go_sem] subV6 sub6 subV7 sub7 subV8 sub8 subV9 sub9 subV10 sub10 subV11 sub11 subV12 sub12 subV13 sub13 subV14 sub14 subV15 sub15 subV16 sub16
theorem allOne_flatF {α : Type} (f : α → List D) (h : ∀ x, ((f x).map V.d).all oneV = true) (t : List α) : ((t.flatMap f).map V.d).all oneV = true := by
 induction t with
 | nil => rfl
 | cons x l ih => rw [List.flatMap_cons, List.map_append, List.all_append, h, ih]; rfl
theorem slice_lenF {α : Type} (f : α → List D) (t : List α) (n : Nat) (h : n = t.length) : D.list n (t.flatMap f) = D.list t.length (t.flatMap f) := by rw [h]
theorem FW.toS {ro : Option Nat} {P : Program} {ops : Array Oper} {all l l2 : List Oper} {env : Env} {K : Env → Prop} (T : List (Nat × V)) (O : List Ob) (h : ∀ K' : Env → Prop, K' ⟨env.nt, T, O, env.gs, env.th⟩ → FW P ops l env fun env' => OW ro P all l2 env' K')
  (hK : K ⟨env.nt, T, O, env.gs, env.th⟩) : FW P ops l env fun env' => OW ro P all l2 env' K := h K hK
section
variable {ro : Option Nat} {P : Program} {all : List Oper} {env : Env} {K : Env → Prop}
theorem OW.callGh' {o : Oper} {rest : List Oper} {fo : Operand} {xs : Array Operand} {ts : Array TypeId} {f : FuncId} {caps vs : List V} {ds : List D} {r : V} {gd : Nat × Bool} {g : Bool} (k : Nat)
  (ho : o.op = .call { callee := .value fo, args := xs, argTypes := ts }) (hg : o.guard = some gd) (hgc : u7 (all.map (·.dst)) env.tmps (some gd) = some g)
  (hf : g = true → E0 (ev (env.under g) fo) = some (f, caps)) (hvs : g = true → xs.toList.map (ev (env.under g)) ++ caps = vs)
  (hds : g = true → vs.map (toD env.objs k) = ds) (hcall : g = true → CallOK P f ds r []) (hok : g = true → ∀ v ∈ vs, okD env.objs k v) (hcl : vs.all noO = true ∨ cleanV r = true) (hd : l5 env o.dst)
  (h : OW ro P all rest (putO env o.dst (.guarded g (r.shift env.objs.length))) K) : OW ro P all (o :: rest) env K :=
 OW.callG ho hg hgc hf (fun hgt => by rw [hvs hgt]; exact ⟨k, hok hgt, by rw [show (env.under g).objs = env.objs from rfl, hds hgt]; exact hcall hgt, hcl.imp id fun h => ⟨h, rfl⟩⟩) hd h
end
end Go.PW
