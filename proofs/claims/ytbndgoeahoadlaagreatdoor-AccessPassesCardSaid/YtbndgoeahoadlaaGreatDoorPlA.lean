import Derived.Test.YtbndgoeahoadlaaGreatDoorPwS
set_option linter.all false
namespace Go.PW
open Go.RowKit

def putAll (l : List (Nat × V)) : List (Nat × V) → List (Nat × V)
 | [] => l
 | (t, v) :: r => putAll (put l t v) r

theorem ite_and (a b : Bool) : (if a = true then b else false) = (a && b) := by cases a <;> rfl
theorem ite_or (a b : Bool) : (if a = true then true else b) = (a || b) := by cases a <;> rfl
theorem cutD (m : Nat) (x : D) : V.cut m (.d x) = .d x := rfl
theorem toD_d (objs : List Ob) (k : Nat) (x : D) : toD objs (k + 1) (.d x) = nz x := by cases x <;> rfl
theorem nz_list (n : Nat) (l : List D) : nz (.list n l) = .list n l := rfl
theorem nz_int (k : IntKind) (n : Int) : nz (.val (.int k n)) = .val (.int k n) := rfl
theorem nz_bool (b : Bool) : nz (.val (.bool b)) = .val (.bool b) := rfl
theorem nz_str (b : ByteArray) : nz (.val (.string b)) = .val (.string b) := rfl
theorem nz_agg (l : List D) : nz (.agg l) = .agg l := rfl
theorem nz_tup (l : List D) : nz (.tup l) = .tup l := rfl
theorem nz_clo (f : FuncId) (l : List D) : nz (.clo f l) = .clo f l := rfl
theorem nz_ref (l : List D) : nz (.ref l) = .ref l := rfl
theorem nz_nil : nz (.val (.slice none 0 0)) = .list 0 [] := rfl

theorem or_not_self' (b : Bool) : (b || !b) = true := by cases b <;> rfl
theorem allOne_mapI (l : List Int) : ((l.map I).map V.d).all oneV = true := by induction l with | nil => rfl | cons x l ih => simp [oneV, Value.oneCell', ih]
theorem allOne_mapL (l : List (List Int)) : ((l.map L).map V.d).all oneV = true := by induction l with | nil => rfl | cons x l ih => simp [oneV, ih]
theorem kill_mapD (i : Nat) (ds : List D) : (ds.map V.d).map (V.kill i) = ds.map V.d := by rw [List.map_map]; exact List.map_congr_left fun x _ => rfl
theorem cut_mapD (i : Nat) (ds : List D) : (ds.map V.d).map (V.cut i) = ds.map V.d := by rw [List.map_map]; exact List.map_congr_left fun x _ => rfl
theorem subV2 (cells : List V) (k : Nat) : subV cells k 2 = [cells.getD k n5, cells.getD (k + 1) n5] := by simp [subV, List.range_succ]
theorem subV3 (cells : List V) (k : Nat) : subV cells k 3 = [cells.getD k n5, cells.getD (k + 1) n5, cells.getD (k + 2) n5] := by simp [subV, List.range_succ]
theorem subV4 (cells : List V) (k : Nat) : subV cells k 4 = [cells.getD k n5, cells.getD (k + 1) n5, cells.getD (k + 2) n5, cells.getD (k + 3) n5] := by simp [subV, List.range_succ]
theorem subV5 (cells : List V) (k : Nat) : subV cells k 5 = [cells.getD k n5, cells.getD (k + 1) n5, cells.getD (k + 2) n5, cells.getD (k + 3) n5, cells.getD (k + 4) n5] := by simp [subV, List.range_succ]
theorem sub2 (cells : List D) (k : Nat) : sub cells k 2 = [cells.getD k default, cells.getD (k + 1) default] := by simp [sub, List.range_succ]
theorem sub3 (cells : List D) (k : Nat) : sub cells k 3 = [cells.getD k default, cells.getD (k + 1) default, cells.getD (k + 2) default] := by simp [sub, List.range_succ]
theorem sub4 (cells : List D) (k : Nat) : sub cells k 4 = [cells.getD k default, cells.getD (k + 1) default, cells.getD (k + 2) default, cells.getD (k + 3) default] := by simp [sub, List.range_succ]
theorem getD_mapVI (xs : List Int) (k : Nat) : ((xs.map I).map V.d).getD k n5 = V.d (I (xs.getD k 0)) := by
 rw [List.map_map]
 exact getD_mapV xs k
theorem set_mapVI (xs : List Int) (k : Nat) (v : Int) : ((xs.map I).map V.d).set k (V.d (I v)) = (((xs.set k v).map I).map V.d) := by
 rw [List.map_set, List.map_set]
theorem set_mapVI' (xs : List Int) (k : Nat) (v : Int) : ((xs.map I).map V.d).set k (V.d (.val (.int .i64 v))) = (((xs.set k v).map I).map V.d) := set_mapVI xs k v
attribute [go_sem] getD_mapVI set_mapVI set_mapVI' subV2 subV3 subV4 subV5 sub2 sub3 sub4
theorem seg_one {α : Type} (x : α) : seg [x] 0 1 = [x] := rfl
attribute [go_sem] seg_one List.all_append List.map_append allOne_mapI allOne_mapL kill_mapD cut_mapD Bool.false_and Bool.and_false true_implies false_implies or_not_self' putAll Env.fit V.cut V.cut.cuts ite_and ite_or cutD k9 List.foldl_nil List.foldl_cons startM bare

theorem g8 {objs : List Ob} {k : Nat} {vs : List V} (h : vs.all isD = true) : ∀ v ∈ vs, okD objs k v := by
 intro v hv
 have := List.all_eq_true.1 h v hv
 cases v with
 | d x => cases k <;> trivial
 | _ => simp [isD] at this
theorem all_isD_map (l : List D) : (l.map V.d).all isD = true := by induction l with | nil => rfl | cons x l ih => simp [isD, ih]

theorem PW.virt {ro : Option Nat} {P : Program} {Q : Exit → Env → Prop} {c : Code} {env : Env} (t : Nat) (e : TypeId) (sz : Nat) (ht : get env.tmps t = .d (.val (.slice none 0 0)))
  (h : PW ro P c Q { env with objs := env.objs ++ [⟨[], e⟩], tmps := PW.put env.tmps t (.own env.objs.length 0 0 sz) }) : PW ro P c Q env := by
 intro B w0 S0 φ a w hr
 have hv := hr.virt e
 refine h B w0 S0 _ a w ⟨hv.below, hv.base, hv.nodef, hv.size, fun t' => ?_, hv.objs, hv.low, hv.inj, hv.ghost⟩
 simp only [get_put]
 split
 ·
  rename_i he
  subst he
  have h1 := hr.tmps t'
  rw [ht] at h1
  simp only [RepV, RepD] at h1
  rw [h1]
  simp only [RepV]
  exact ⟨by simp, .inl ⟨none, by simp⟩⟩
 · exact hv.tmps t'

def Env.keepS (S : List Nat) (env : Env) : Env := { env with tmps := G2 S env.tmps }
attribute [go_sem] Env.keepS
end Go.PW
namespace Go.PW

def chk {α : Type} (c : Prop) [Decidable c] (k : Option α) : Option α := if c then k else none
def br {α : Type} (c : Bool) (a b : Option α) : Option α := if c = true then a else b
def bnd {α β : Type} (x : Option α) (k : α → Option β) : Option β := match x with | some a => k a | none => none
def grd {α : Type} (g : Bool) (d : α) (x : Option α) : Option α := if g = true then x else some d
def rds {σ R : Type} (b : (σ → Option R) → σ → Option R) : Nat → σ → Option R
  | 0, _ => none
  | n + 1, s => b (rds b n) s
def jn {τ R : Type} (rest : τ → Option R) (k : (τ → Option R) → Option R) : Option R := k rest

theorem j6 {α : Type} {c : Prop} [Decidable c] {k : Option α} {r : α} (h : chk c k = some r) : c ∧ k = some r := by
  unfold chk at h
  split at h
  · exact ⟨‹_›, h⟩
  · cases h
theorem n6 {α : Type} {c : Bool} {a b : Option α} {r : α} (h : c = true) (hr : br c a b = some r) : a = some r := by
  unfold br at hr; rwa [if_pos h] at hr
theorem l7 {α : Type} {c : Bool} {a b : Option α} {r : α} (h : c = false) (hr : br c a b = some r) : b = some r := by
  subst h; exact hr
theorem d4 {α β : Type} {x : Option α} {k : α → Option β} {r : β} (h : bnd x k = some r) : ∃ a, x = some a ∧ k a = some r := by
  cases x with
  | none => cases h
  | some a => exact ⟨a, rfl, h⟩
theorem grd_t {α : Type} {g : Bool} {d : α} {x : Option α} {r : α} (hg : g = true) (h : grd g d x = some r) : x = some r := by
  unfold grd at h; rwa [if_pos hg] at h

@[simp] theorem j9 {α β : Type} (a : α) (k : α → Option β) : bnd (some a) k = k a := rfl
@[simp] theorem br_true {α : Type} (a b : Option α) : br true a b = a := rfl
@[simp] theorem br_false {α : Type} (a b : Option α) : br false a b = b := rfl
@[simp] theorem grd_true {α : Type} (d : α) (x : Option α) : grd true d x = x := rfl
@[simp] theorem grd_false {α : Type} (d : α) (x : Option α) : grd false d x = some d := rfl
theorem l9 {α : Type} {c : Prop} [Decidable c] (h : c) (k : Option α) : chk c k = k := if_pos h
theorem l0 {α : Type} {c : Bool} (h : c = true) (a b : Option α) : br c a b = a := if_pos h
theorem l4 {α : Type} {c : Bool} (h : c = false) (a b : Option α) : br c a b = b := by subst h; rfl
theorem D3 {σ R : Type} {b : (σ → Option R) → σ → Option R} (I : σ → Prop) (μ : σ → Nat) (f : σ → Option R)
    (h : ∀ rec s, I s → (∀ s', I s' → μ s' < μ s → rec s' = f s') → b rec s = f s) : ∀ n s, I s → μ s < n → rds b n s = f s := by
  intro n
  induction n with
  | zero => intro s _ hn; exact absurd hn (Nat.not_lt_zero _)
  | succ n ih => intro s hI hn; exact h _ s hI fun s' hI' hlt => ih s' hI' (by omega)

theorem wrap_ex (f : Int → Int) : ∃ g : Int → Int, ∀ n, g n = f n := ⟨f, fun _ => rfl⟩
/- Numbers as the machine keeps them. They are chosen, not computed: nothing unfolds them by chance. -/
noncomputable def w64 : Int → Int := Classical.choose (wrap_ex fun n => (n + 9223372036854775808) % 18446744073709551616 - 9223372036854775808)
noncomputable def wu64 : Int → Int := Classical.choose (wrap_ex fun n => n % 18446744073709551616)
noncomputable def wu32 : Int → Int := Classical.choose (wrap_ex fun n => n % 4294967296)
noncomputable def wu8 : Int → Int := Classical.choose (wrap_ex fun n => n % 256)
noncomputable def wi32 : Int → Int := Classical.choose (wrap_ex fun n => (n + 2147483648) % 4294967296 - 2147483648)
theorem w64_eq (n : Int) : w64 n = (n + 9223372036854775808) % 18446744073709551616 - 9223372036854775808 := Classical.choose_spec (wrap_ex _) n
theorem wu64_eq (n : Int) : wu64 n = n % 18446744073709551616 := Classical.choose_spec (wrap_ex _) n
theorem wu32_eq (n : Int) : wu32 n = n % 4294967296 := Classical.choose_spec (wrap_ex _) n
theorem wu8_eq (n : Int) : wu8 n = n % 256 := Classical.choose_spec (wrap_ex _) n
theorem wi32_eq (n : Int) : wi32 n = (n + 2147483648) % 4294967296 - 2147483648 := Classical.choose_spec (wrap_ex _) n
noncomputable def andI (a b : Int) : Int := w64 ((BitVec.ofInt 64 a &&& BitVec.ofInt 64 b).toNat)
noncomputable def orI (a b : Int) : Int := w64 ((BitVec.ofInt 64 a ||| BitVec.ofInt 64 b).toNat)
noncomputable def xorI (a b : Int) : Int := w64 ((BitVec.ofInt 64 a ^^^ BitVec.ofInt 64 b).toNat)
noncomputable def shlI (a b : Int) : Int := w64 (a * 2 ^ (min b.toNat 64))
def shrI (a b : Int) : Int := a.fdiv (2 ^ (min b.toNat 64))
theorem n4 {n : Int} (h : -9223372036854775808 ≤ n ∧ n ≤ 9223372036854775807) : w64 n = n := by rw [w64_eq]; omega
end Go.PW
