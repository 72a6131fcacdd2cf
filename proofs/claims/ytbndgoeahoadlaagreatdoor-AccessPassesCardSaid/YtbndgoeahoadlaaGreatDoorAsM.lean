import Derived.Test.YtbndgoeahoadlaaGreatDoorPwBl
import Derived.Test.YtbndgoeahoadlaaGreatDoorExG
import Derived.Test.YtbndgoeahoadlaaGreatDoorPwZ
import Derived.Test.YtbndgoeahoadlaaGreatDoorAsTy
import Derived.Test.YtbndgoeahoadlaaGreatDoorPwX
import Derived.Test.YtbndgoeahoadlaaGreatDoorPwF3
import Derived.Test.YtbndgoeahoadlaaGreatDoorPwG5
set_option linter.all false
namespace Go.PW
open Go.RowKit

def FrOK (env : Env) (v : V) (x : D) : Prop := ∃ k, okD env.objs k v ∧ A8 env.objs k v = true ∧ toD env.objs k v = x
def EndsF (P : Program) (rs : List ResultVar) (x : D) : Exit → Env → Prop :=
  fun e env => (e = .normal ∨ e = .ret) ∧ match resV P rs env with | (c, v) => c ∧ FrOK env v x
theorem EndsF.intro {P : Program} {rs : List ResultVar} {x : D} {e : Exit} {env : Env} (he : e = .normal ∨ e = .ret) (h : match resV P rs env with | (c, v) => c ∧ FrOK env v x) : EndsF P rs x e env := ⟨he, h⟩
theorem EndsF.out {P : Program} {rs : List ResultVar} {x : D} {e : Exit} {env : Env} (h : EndsF P rs x e env) : (e = .normal ∨ e = .ret) ∧ (resV P rs env).1 ∧ ∃ k, okD env.objs k (resV P rs env).2 ∧ A8 env.objs k (resV P rs env).2 = true ∧ toD env.objs k (resV P rs env).2 = x := by
  unfold EndsF at h
  generalize resV P rs env = r at h
  obtain ⟨c, v⟩ := r
  exact ⟨h.1, h.2.1, h.2.2⟩
attribute [irreducible] EndsF
theorem FrOK.data {env : Env} {v : V} {x : D} (k : Nat) (hok : okD env.objs k v) (hf : A8 env.objs k v = true) (h : toD env.objs k v = x) : FrOK env v x := ⟨k, hok, hf, h⟩

section
variable {P : Program} {B : Nat} {w0 : World} {S0 : Nat → Prop} {φ : Nat → Option Nat} {env : Env} {a : Act} {w : World}
theorem CallF.of_PWt {f : FuncId} {fn : Func} {c : Code} {ds : List D} {x : D} {rs : List ResultVar} {nt : Nat} (hf : P.funcs[f]? = some fn) (hb : fn.body = some c) (hrs : fn.results.toList = rs) (hnt : fn.ntmps = nt)
    (hcall : ∀ args w, (callFunc f args).run P w = .ok (.enter f args) w)
    (h : PW none P c (EndsF P rs x) (n7 nt ds)) : CallF P f ds x := by
  refine ⟨hcall, fun w S vs hgi hvs => (F9 (ro := none) (n := 1)).1 (callsIn_of_wp_marks hf hb trivial ?_ rfl)⟩
  have hl := RepAll.length _ _ hvs
  have hrel : Rel w.heap.size w S (fun _ => none) (n7 nt ds) { tmps := vs.toArray ++ Array.replicate (fn.ntmps - vs.toArray.size) undef, defers := [] } w := by
    refine ⟨Below.refl _ _, ⟨Nat.le_refl _, hgi⟩, Marks.nil _ _ _, ?_, ?_, ?_, ?_, ?_, ?_⟩
    · simp [n7]; omega
    · intro t
      simp only [n7, get_start, Nat.zero_le, if_true, Nat.sub_zero]
      cases hd : ds[t]? with
      | none => simp [RepV]
      | some d =>
        have ht : t < ds.length := (List.getElem?_eq_some_iff.1 hd).1
        have h1 := RepAll.get _ _ hvs t ht
        simp only [RepV]
        have e1 : (vs.toArray ++ Array.replicate (fn.ntmps - vs.toArray.size) undef).getD t undef = vs.getD t undef := by
          simp only [Array.getD_eq_getD_getElem?, List.getD_eq_getElem?_getD]
          rw [Array.getElem?_append_left (by simp; omega)]
          simp
        have e2 : ds.getD t default = d := by simp [List.getD_eq_getElem?_getD, hd]
        rw [e1]
        rw [e2] at h1
        refine RepD.mono (S := S) (w := w) (fun b o x hb hc => ⟨hc, .inl hb, fun i hi => ?_⟩) d _ h1
        simp at hi
    · intro i ob hi; simp [n7] at hi
    · intro i g hi; simp [n7] at hi
    · intro i j g hi; simp [n7] at hi
    · exact ⟨Nat.zero_le _, fun x hx => by simp [n7] at hx⟩
  refine wpIn_mono (h w.heap.size w S (fun _ => none) _ w hrel) ?_
  rintro e a w' ⟨env', φ', he0, hr'⟩
  obtain ⟨he, hv, k, hok, hfr, hx⟩ := EndsF.out he0
  have hpost : LeavesInM (Fd none) 1 P fn a.tmps (fun e w' => ∃ v, e = .returned v ∧ Below w.heap.size w w' ∧ RepD w' (fun b => w.heap.size ≤ b) x v) a.defers .returning w' := by
    obtain ⟨Ds, hDs, _⟩ := hr'.nodef.2.1
    obtain ⟨tmps, defers⟩ := a
    simp only at hDs
    subst hDs
    refine leaves_marks (env := env'.plain) rfl (fun w2 hr2 => ?_) Ds w' hr'.plain
    have hv2 : (resV P rs env'.plain) = resV P rs env' := rfl
    obtain ⟨u, hu, hrep⟩ := run_results (P := P) (fn := fn) hr2 (by rw [hrs, hv2]; exact hv)
    rw [hrs, hv2] at hrep
    refine ⟨u, hu, u, rfl, hr2.below, ?_⟩
    rw [← hx]
    exact fresh_rep (env := env'.plain) hr2 k _ u hrep hok hfr
  rcases he with rfl | rfl <;> exact hpost
end

section
variable {ro : Option Nat} {P : Program} {all : List Oper} {env : Env} {K : Env → Prop}
theorem OW.callF' {o : Oper} {rest : List Oper} {fo : Operand} {xs : Array Operand} {ts : Array TypeId} {f : FuncId} {caps vs : List V} {ds : List D} {x : D} (k : Nat)
    (ho : o.op = .call { callee := .value fo, args := xs, argTypes := ts }) (hg : o.guard = none) (hf : E0 (ev env fo) = some (f, caps)) (hvs : xs.toList.map (ev env) ++ caps = vs)
    (hds : vs.map (toD env.objs k) = ds) (hcall : CallF P f ds x) (hok : ∀ v ∈ vs, okD env.objs k v) (hd : l5 env o.dst)
    (h : OW ro P all rest (putO env o.dst (.d x)) K) : OW ro P all (o :: rest) env K := by
  subst hds
  exact OW.callF ho hg hf hvs hcall hok hd h
end
section
variable {P : Program} {ops : Array Oper} {g1 : Nat} {os : Nat → List Ob} {κ : Nat → V → V} {cs : List Nat}
@[go_sem] theorem map_nz_list {α : Type} (n : α → Nat) (c : α → List D) (l : List α) : (l.map fun x => D.list (n x) (c x)).map nz = l.map fun x => D.list (n x) (c x) := by rw [List.map_map]; exact List.map_congr_left fun x _ => rfl
theorem freshO {objs : List Ob} {k i off n sz : Nat} {cells : List D} (h : cellsOf objs i = cells.map V.d) (hv : cells.all isValD = true) : A8 objs (k + 1) (.own i off n sz) = true := by
  simp only [A8, List.all_eq_true, seg]
  intro v hv1
  have h2 := List.mem_of_mem_take hv1
  have h3 := List.mem_of_mem_drop h2
  rw [h] at h3
  obtain ⟨x, hx, rfl⟩ := List.mem_map.1 h3
  have h4 := List.all_eq_true.1 hv x hx
  cases k <;> simpa [A8] using h4
theorem all_valI (l : List Int) : (l.map I).all isValD = true := by rw [List.all_map]; exact List.all_eq_true.2 fun x _ => rfl
end
end Go.PW
namespace Go.Sh
open Go.PW
abbrev TB := ByteArray × Int × Int × Int × Int × Int × Int × Int × Int
abbrev TU := ByteArray × Int × Int × Int × Int × Int × Int × Int × Int × Int × Int × Int × Int × Int
abbrev Ph := Int × Int × Int × Int × Int × Int × Int
/-- slices.Clone -/
def q6 (N : Nat) (s : List Ph) : Option (List Ph) := chk (s.length ≤ 1000000000) <| some s
/-- The fixed examples. -/
def law07_awake (_N : Nat) : Option Bool := some true
end Go.Sh
namespace Go.Proofs.YtbndgoeahoadlaaGreatDoor
open Go.PW Go.Sh

set_option maxRecDepth 20000
set_option maxHeartbeats 8000000
def zf0Ma := m8 7 (fun x : Int × Int × Int × Int × Int × Int × Int => [I x.1, I x.2.1, I x.2.2.1, I x.2.2.2.1, I x.2.2.2.2.1, I x.2.2.2.2.2.1, I x.2.2.2.2.2.2]) (fun _ => rfl)
def zf1Ma := allOne_flatF (fun x : Int × Int × Int × Int × Int × Int × Int => [I x.1, I x.2.1, I x.2.2.1, I x.2.2.2.1, I x.2.2.2.2.1, I x.2.2.2.2.2.1, I x.2.2.2.2.2.2]) (fun _ => rfl)
set_option maxRecDepth 20000 in
theorem G4 (N : Nat) (s : List Ph) (r : List Ph) (H : q6 N s = some r) : CallOK Tryz.prog 120 [.list s.length (s.flatMap (fun x : Int × Int × Int × Int × Int × Int × Int => [I x.1, I x.2.1, I x.2.2.1, I x.2.2.2.1, I x.2.2.2.2.1, I x.2.2.2.2.2.1, I x.2.2.2.2.2.2]))] (.own 0 0 r.length 7) [(r.flatMap (fun x : Int × Int × Int × Int × Int × Int × Int => [I x.1, I x.2.1, I x.2.2.1, I x.2.2.2.1, I x.2.2.2.2.1, I x.2.2.2.2.2.1, I x.2.2.2.2.2.2]), 71)] := by
 refine i7 Tryz.func120 rfl (by rw [Tryz.results120]) Tryz.ntmps120 Tryz.call120 ?_
 change PW _ _ _ _ _
 try simp only [go_sem, simprocAttr]
 unfold q6 at H
 obtain ⟨c1, H⟩ := j6 H
 obtain rfl := Option.some.inj H
 refine b7 ?_
 refine d6 fun K hK => OW.run [0] ?_
 simp only [go_sem, simprocAttr, sw0]
 refine OW.nil (hK _ ?_)
 refine b7 ?_
 refine b7 ?_
 refine d6 fun K hK => ?_
 refine OW.step rfl ?_
 simp only [go_sem, simprocAttr, sw0]
 refine OW.binNil rfl rfl se28 rfl rfl (by (simp only [go_sem, Nat.reduceLT])) ?_
 intro b hb
 refine OW.run [0, 4] ?_
 simp only [go_sem, simprocAttr, sw0]
 refine OW.nil (hK _ ?_)
 refine d5 rfl (fun h => ?_) (fun h => ?_)
 have hs : s = [] := by
  have h0 := hb h
  cases s with
  | nil => rfl
  | cons x s => simp at h0
 subst hs
 refine b7 ?_
 refine d6 fun K hK => OW.run [2] ?_
 try simp only [go_sem, simprocAttr]
 refine OW.nil (hK _ ?_)
 refine d7 ?_
 change PW.Ends _ _ _ _ _ _
 refine PW.Ends.intro (.inr rfl) ?_
 try simp only [go_sem, simprocAttr]
 exact RetOK.nilOwn
 refine d8 ?_
 refine b7 ?_
 refine d6 fun K hK => OW.run [2] ?_
 (simp only [go_sem, simprocAttr, sw0, zf0Ma, zf1Ma])
 repeat (refine And.intro (by omega) ?_)
 refine OW.nil (hK _ ?_)
 refine d7 ?_
 change PW.Ends _ _ _ _ _ _
 refine PW.Ends.intro (.inr rfl) ?_
 try simp only [go_sem, simprocAttr]
 refine RetOK.own 0 _ _ rfl ?_
 rfl

def isI : D → Bool
 | .val (.int .i64 _) => true
 | _ => false
theorem allI : ∀ {l : List D}, l.all isI = true → ∃ s : List Int, l = s.map I
 | [], _ => ⟨[], rfl⟩
 | x :: l, h => by
  simp only [List.all_cons, Bool.and_eq_true] at h
  obtain ⟨s, rfl⟩ := allI h.2
  obtain ⟨n, rfl⟩ : ∃ n, x = I n := by
   have h1 := h.1
   unfold isI at h1
   split at h1
   · exact ⟨_, rfl⟩
   · cases h1
  exact ⟨n :: s, rfl⟩
def phF (x : Ph) : List D := [I x.1, I x.2.1, I x.2.2.1, I x.2.2.2.1, I x.2.2.2.2.1, I x.2.2.2.2.2.1, I x.2.2.2.2.2.2]
theorem chunk7 : ∀ (n : Nat) (l : List Int), l.length = n * 7 → ∃ s : List Ph, s.length = n ∧ s.flatMap phF = l.map I
 | 0, l, h => ⟨[], rfl, by
  have : l = [] := List.length_eq_zero_iff.1 (by omega)
  subst this; rfl⟩
 | n + 1, l, h => by
  match l, h with
  | a :: b :: c :: d :: e :: f :: g :: l, h =>
   obtain ⟨s, h1, h2⟩ := chunk7 n l (by simp only [List.length_cons] at h; omega)
   exact ⟨(a, b, c, d, e, f, g) :: s, by simp [h1], by simp only [List.flatMap_cons, h2, phF, List.map_cons, List.cons_append, List.nil_append]⟩
  | [], h => exact absurd h (by simp only [List.length_cons, List.length_nil]; omega)
  | [_], h => exact absurd h (by simp only [List.length_cons, List.length_nil]; omega)
  | [_, _], h => exact absurd h (by simp only [List.length_cons, List.length_nil]; omega)
  | [_, _, _], h => exact absurd h (by simp only [List.length_cons, List.length_nil]; omega)
  | [_, _, _, _], h => exact absurd h (by simp only [List.length_cons, List.length_nil]; omega)
  | [_, _, _, _, _], h => exact absurd h (by simp only [List.length_cons, List.length_nil]; omega)
  | [_, _, _, _, _, _], h => exact absurd h (by simp only [List.length_cons, List.length_nil]; omega)
def cloneM (args : List V) (O : List Ob) : Option (V × List Ob × List Nat) :=
 match args with
 | [.d (.list n cells)] => if cells.all isI && Nat.beq cells.length (n * 7) && Nat.ble n 1000 then some (.own O.length 0 n 7, O ++ [⟨cells.map .d, 71⟩], []) else none
 | _ => none
theorem cloneM_ok {args : List V} {O O' : List Ob} {r : V} {ks : List Nat} (h : cloneM args O = some (r, O', ks)) : CallM Tryz.prog 120 args O r O' ks := by
 unfold cloneM at h
 split at h
 rename_i n cells
 split at h
 rename_i hc
 simp only [Bool.and_eq_true, Nat.beq_eq, Nat.ble_eq] at hc
 obtain ⟨⟨h1, h2⟩, h3⟩ := hc
 obtain ⟨l, rfl⟩ := allI h1
 obtain ⟨s, hs, hf⟩ := chunk7 n l (by simpa using h2)
 cases h
 have e := G4 0 s s (by unfold q6 chk; rw [if_pos (by omega)])
 have hF : s.flatMap (fun x : Int × Int × Int × Int × Int × Int × Int => [I x.1, I x.2.1, I x.2.2.1, I x.2.2.2.1, I x.2.2.2.2.1, I x.2.2.2.2.2.1, I x.2.2.2.2.2.2]) = l.map I := hf
 rw [hF, hs] at e
 refine CallM.ofOwn' 4 e rfl (by simp [okD]) ?_ ?_ ?_
 simp only [List.map_cons, List.map_nil, toD, nz]
 simp only [V.shift, Nat.zero_add]
 simp [Env.addObs, bare, toOb, List.map_map]
 cases h
 cases h
end Go.Proofs.YtbndgoeahoadlaaGreatDoor
