/-
  Walks of functions whose results nobody else holds: their arguments need not be given up. For every program.
-/
import Derived.Test.YtklejiafioalnaaGreatPwF7
import Derived.Test.YtklejiafioalnaaGreatExG
set_option linter.all false
namespace Go.PW
open Go.RowKit

def FrOK (env : Env) (v : V) (x : D) : Prop := ∃ k, okD env.objs k v ∧ freshB env.objs k v = true ∧ toD env.objs k v = x
def EndsF (P : Program) (rs : List ResultVar) (x : D) : Exit → Env → Prop :=
  fun e env => (e = .normal ∨ e = .ret) ∧ match resV P rs env with | (c, v) => c ∧ FrOK env v x
theorem EndsF.intro {P : Program} {rs : List ResultVar} {x : D} {e : Exit} {env : Env} (he : e = .normal ∨ e = .ret) (h : match resV P rs env with | (c, v) => c ∧ FrOK env v x) : EndsF P rs x e env := ⟨he, h⟩
theorem EndsF.out {P : Program} {rs : List ResultVar} {x : D} {e : Exit} {env : Env} (h : EndsF P rs x e env) : (e = .normal ∨ e = .ret) ∧ (resV P rs env).1 ∧ ∃ k, okD env.objs k (resV P rs env).2 ∧ freshB env.objs k (resV P rs env).2 = true ∧ toD env.objs k (resV P rs env).2 = x := by
  unfold EndsF at h
  generalize resV P rs env = r at h
  obtain ⟨c, v⟩ := r
  exact ⟨h.1, h.2.1, h.2.2⟩
attribute [irreducible] EndsF
theorem FrOK.data {env : Env} {v : V} {x : D} (k : Nat) (hok : okD env.objs k v) (hf : freshB env.objs k v = true) (h : toD env.objs k v = x) : FrOK env v x := ⟨k, hok, hf, h⟩

section
variable {P : Program} {B : Nat} {w0 : World} {S0 : Nat → Prop} {φ : Nat → Option Nat} {env : Env} {a : Act} {w : World}
theorem CallF.of_PWt {f : FuncId} {fn : Func} {c : Code} {ds : List D} {x : D} {rs : List ResultVar} {nt : Nat} (hf : P.funcs[f]? = some fn) (hb : fn.body = some c) (hrs : fn.results.toList = rs) (hnt : fn.ntmps = nt)
    (hcall : ∀ args w, (callFunc f args).run P w = .ok (.enter f args) w)
    (h : PW none P c (EndsF P rs x) (startEnv nt ds)) : CallF P f ds x := by
  refine ⟨hcall, fun w S vs hvs => (callsIn_Fd (ro := none) (n := 1)).1 (callsIn_of_wp_marks hf hb trivial ?_ rfl)⟩
  have hl := RepAll.length _ _ hvs
  have hrel : Rel w.heap.size w S (fun _ => none) (startEnv nt ds) { tmps := vs.toArray ++ Array.replicate (fn.ntmps - vs.toArray.size) undef, defers := [] } w := by
    refine ⟨Below.refl _ _, Nat.le_refl _, Marks.nil _ _ _, ?_, ?_, ?_, ?_, ?_, ?_⟩
    · simp [startEnv]; omega
    · intro t
      simp only [startEnv, get_start, Nat.zero_le, if_true, Nat.sub_zero]
      cases hd : ds[t]? with
      | none => simp [RepV]
      | some d =>
        have ht : t < ds.length := (List.getElem?_eq_some_iff.1 hd).1
        have h1 := RepAll.get _ _ hvs t ht
        simp only [RepV]
        have e1 : (vs.toArray ++ Array.replicate (fn.ntmps - vs.toArray.size) undef).getD t undef = vs.getD t undef := by
          simp only [Array.getD_eq_getD_getElem?, List.getD_eq_getElem?_getD]
          rw [Array.getElem?_append_left (by simp; omega)]
          simp
        have e2 : ds.getD t default = d := by simp [List.getD_eq_getElem?_getD, hd]
        rw [e1]
        rw [e2] at h1
        refine RepD.mono (S := S) (w := w) (fun b o x hb hc => ⟨hc, .inl hb, fun i hi => ?_⟩) d _ h1
        simp at hi
    · intro i ob hi; simp [startEnv] at hi
    · intro i g hi; simp [startEnv] at hi
    · intro i j g hi; simp [startEnv] at hi
    · exact ⟨Nat.zero_le _, fun x hx => by simp [startEnv] at hx⟩
  refine wpIn_mono (h w.heap.size w S (fun _ => none) _ w hrel) ?_
  rintro e a w' ⟨env', φ', he0, hr'⟩
  obtain ⟨he, hv, k, hok, hfr, hx⟩ := EndsF.out he0
  have hpost : LeavesInM (Fd none) 1 P fn a.tmps (fun e w' => ∃ v, e = .returned v ∧ Below w.heap.size w w' ∧ RepD w' (fun b => w.heap.size ≤ b) x v) a.defers .returning w' := by
    obtain ⟨Ds, hDs, _⟩ := hr'.nodef.2.1
    obtain ⟨tmps, defers⟩ := a
    simp only at hDs
    subst hDs
    refine leaves_marks (env := env'.plain) rfl (fun w2 hr2 => ?_) Ds w' hr'.plain
    have hv2 : (resV P rs env'.plain) = resV P rs env' := rfl
    obtain ⟨u, hu, hrep⟩ := run_results (P := P) (fn := fn) hr2 (by rw [hrs, hv2]; exact hv)
    rw [hrs, hv2] at hrep
    refine ⟨u, hu, u, rfl, hr2.below, ?_⟩
    rw [← hx]
    exact fresh_rep (env := env'.plain) hr2 k _ u hrep hok hfr
  rcases he with rfl | rfl <;> exact hpost
end

section
variable {ro : Option Nat} {P : Program} {all : List Oper} {env : Env} {K : Env → Prop}
end
section
variable {P : Program} {ops : Array Oper} {g1 : Nat} {os : Nat → List Ob} {κ : Nat → V → V} {cs : List Nat}
theorem FWX.callF {env : Env} {K : Env → Prop} {i : Nat} {o : Oper} {l : List Oper} {fo : Operand} {xs : Array Operand} {ts : Array TypeId} (hic : cs.idxOf? i = none) (ho : o.op = .call { callee := .value fo, args := xs, argTypes := ts }) (hg : o.guard = none)
    {f : FuncId} {caps vs : List V} {ds : List D} {x : D} (k m M : Nat) (hdep : m = 0 ∨ ∃ e ∈ o.after, Region.binds .any e = true ∧ cs[m - 1]? = some e.on) (hup : UpTo ops cs i M) (hf : cloOf (ev env fo) = some (f, caps)) (hvs : xs.toList.map (ev env) ++ caps = vs)
    (hc : CallF P f ds x) (h1 : ∀ j, m ≤ j → j ≤ M → vs.map (toD (os j) k) = ds ∧ ∀ v ∈ vs, okD (os j) k v) (hk : KeptX ops κ cs i o (get env.tmps) (.d x)) (hd : okDst env o.dst)
    (h : FWX P ops g1 os κ cs l (i + 1) (putO env o.dst (.d x)) K) : FWX P ops g1 os κ cs (o :: l) i env K := by
  refine ⟨.d x, ?_, by rw [hic]; exact h⟩
  unfold YB
  rw [hic]
  refine ⟨⟨okDst_D hd, hk⟩, fun j hj hdj hu => ?_⟩
  have hmj : m ≤ j := by
    rcases hdep with rfl | ⟨e, he, hb, ho⟩
    · exact Nat.zero_le _
    · have := hdj (m - 1) e he hb ho; omega
  obtain ⟨h2, h3⟩ := h1 j hmj (hup.le hj hu)
  exact Yields.callF (env := { env with objs := os j }) (k := k) ho (fun j want h => by rw [hg] at h; cases h) hf hvs (by rw [h2]; exact hc) h3 hd
@[go_sem] theorem map_nz_list {α : Type} (n : α → Nat) (c : α → List D) (l : List α) : (l.map fun x => D.list (n x) (c x)).map nz = l.map fun x => D.list (n x) (c x) := by rw [List.map_map]; exact List.map_congr_left fun x _ => rfl
theorem freshO {objs : List Ob} {k i off n sz : Nat} {cells : List D} (h : cellsOf objs i = cells.map V.d) (hv : cells.all isValD = true) : freshB objs (k + 1) (.own i off n sz) = true := by
  simp only [freshB, List.all_eq_true, seg]
  intro v hv1
  have h2 := List.mem_of_mem_take hv1
  have h3 := List.mem_of_mem_drop h2
  rw [h] at h3
  obtain ⟨x, hx, rfl⟩ := List.mem_map.1 h3
  have h4 := List.all_eq_true.1 hv x hx
  cases k <;> simpa [freshB] using h4
end
end Go.PW
