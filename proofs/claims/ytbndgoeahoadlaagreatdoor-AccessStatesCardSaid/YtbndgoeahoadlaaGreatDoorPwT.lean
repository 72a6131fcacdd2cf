/-
 Tactics of the walks. For every program.
-/
import Derived.Test.YtbndgoeahoadlaaGreatDoorPwS
set_option linter.all false
namespace Go.PW
open Go.RowKit

def putAll (l : List (Nat × V)) : List (Nat × V) → List (Nat × V)
 | [] => l
 | (t, v) :: r => putAll (put l t v) r

theorem ite_and (a b : Bool) : (if a = true then b else false) = (a && b) := by cases a <;> rfl
theorem ite_or (a b : Bool) : (if a = true then true else b) = (a || b) := by cases a <;> rfl
theorem cutD (m : Nat) (x : D) : V.cut m (.d x) = .d x := rfl
theorem toD_d (objs : List Ob) (k : Nat) (x : D) : toD objs (k + 1) (.d x) = nz x := by cases x <;> rfl
theorem nz_list (n : Nat) (l : List D) : nz (.list n l) = .list n l := rfl
theorem nz_int (k : IntKind) (n : Int) : nz (.val (.int k n)) = .val (.int k n) := rfl
theorem nz_bool (b : Bool) : nz (.val (.bool b)) = .val (.bool b) := rfl
theorem nz_str (b : ByteArray) : nz (.val (.string b)) = .val (.string b) := rfl
theorem nz_agg (l : List D) : nz (.agg l) = .agg l := rfl
theorem nz_tup (l : List D) : nz (.tup l) = .tup l := rfl
theorem nz_clo (f : FuncId) (l : List D) : nz (.clo f l) = .clo f l := rfl
theorem nz_ref (l : List D) : nz (.ref l) = .ref l := rfl
theorem nz_nil : nz (.val (.slice none 0 0)) = .list 0 [] := rfl

theorem or_not_self' (b : Bool) : (b || !b) = true := by cases b <;> rfl
theorem allOne_mapI (l : List Int) : ((l.map I).map V.d).all oneV = true := by induction l with | nil => rfl | cons x l ih => simp [oneV, Value.oneCell', ih]
theorem allOne_mapL (l : List (List Int)) : ((l.map L).map V.d).all oneV = true := by induction l with | nil => rfl | cons x l ih => simp [oneV, ih]
theorem kill_mapD (i : Nat) (ds : List D) : (ds.map V.d).map (V.kill i) = ds.map V.d := by rw [List.map_map]; exact List.map_congr_left fun x _ => rfl
theorem cut_mapD (i : Nat) (ds : List D) : (ds.map V.d).map (V.cut i) = ds.map V.d := by rw [List.map_map]; exact List.map_congr_left fun x _ => rfl
theorem subV2 (cells : List V) (k : Nat) : subV cells k 2 = [cells.getD k vdef, cells.getD (k + 1) vdef] := by simp [subV, List.range_succ]
theorem subV3 (cells : List V) (k : Nat) : subV cells k 3 = [cells.getD k vdef, cells.getD (k + 1) vdef, cells.getD (k + 2) vdef] := by simp [subV, List.range_succ]
theorem subV4 (cells : List V) (k : Nat) : subV cells k 4 = [cells.getD k vdef, cells.getD (k + 1) vdef, cells.getD (k + 2) vdef, cells.getD (k + 3) vdef] := by simp [subV, List.range_succ]
theorem subV5 (cells : List V) (k : Nat) : subV cells k 5 = [cells.getD k vdef, cells.getD (k + 1) vdef, cells.getD (k + 2) vdef, cells.getD (k + 3) vdef, cells.getD (k + 4) vdef] := by simp [subV, List.range_succ]
theorem sub2 (cells : List D) (k : Nat) : sub cells k 2 = [cells.getD k default, cells.getD (k + 1) default] := by simp [sub, List.range_succ]
theorem sub3 (cells : List D) (k : Nat) : sub cells k 3 = [cells.getD k default, cells.getD (k + 1) default, cells.getD (k + 2) default] := by simp [sub, List.range_succ]
theorem sub4 (cells : List D) (k : Nat) : sub cells k 4 = [cells.getD k default, cells.getD (k + 1) default, cells.getD (k + 2) default, cells.getD (k + 3) default] := by simp [sub, List.range_succ]
theorem getD_mapVI (xs : List Int) (k : Nat) : ((xs.map I).map V.d).getD k vdef = V.d (I (xs.getD k 0)) := by
 rw [List.map_map]
 exact getD_mapV xs k
theorem set_mapVI (xs : List Int) (k : Nat) (v : Int) : ((xs.map I).map V.d).set k (V.d (I v)) = (((xs.set k v).map I).map V.d) := by
 rw [List.map_set, List.map_set]
theorem set_mapVI' (xs : List Int) (k : Nat) (v : Int) : ((xs.map I).map V.d).set k (V.d (.val (.int .i64 v))) = (((xs.set k v).map I).map V.d) := set_mapVI xs k v
attribute [go_sem] getD_mapVI set_mapVI set_mapVI' subV2 subV3 subV4 subV5 sub2 sub3 sub4
theorem seg_one {α : Type} (x : α) : seg [x] 0 1 = [x] := rfl
attribute [go_sem] seg_one List.all_append List.map_append allOne_mapI allOne_mapL kill_mapD cut_mapD Bool.false_and Bool.and_false true_implies false_implies or_not_self' putAll Env.fit V.cut V.cut.cuts ite_and ite_or cutD killAll List.foldl_nil List.foldl_cons startM bare

theorem okD_all {objs : List Ob} {k : Nat} {vs : List V} (h : vs.all isD = true) : ∀ v ∈ vs, okD objs k v := by
 intro v hv
 have := List.all_eq_true.1 h v hv
 cases v with
 | d x => cases k <;> trivial
 | _ => simp [isD] at this
theorem PW.virt {ro : Option Nat} {P : Program} {Q : Exit → Env → Prop} {c : Code} {env : Env} (t : Nat) (e : TypeId) (sz : Nat) (ht : get env.tmps t = .d (.val (.slice none 0 0)))
  (h : PW ro P c Q { env with objs := env.objs ++ [⟨[], e⟩], tmps := PW.put env.tmps t (.own env.objs.length 0 0 sz) }) : PW ro P c Q env := by
 intro B w0 S0 φ a w hr
 have hv := hr.virt e
 refine h B w0 S0 _ a w ⟨hv.below, hv.base, hv.nodef, hv.size, fun t' => ?_, hv.objs, hv.low, hv.inj, hv.ghost⟩
 simp only [get_put]
 split
 ·
  rename_i he
  subst he
  have h1 := hr.tmps t'
  rw [ht] at h1
  simp only [RepV, RepD] at h1
  rw [h1]
  simp only [RepV]
  exact ⟨by simp, .inl ⟨none, by simp⟩⟩
 · exact hv.tmps t'

def Env.keepS (S : List Nat) (env : Env) : Env := { env with tmps := keep S env.tmps }
attribute [go_sem] Env.keepS
end Go.PW
