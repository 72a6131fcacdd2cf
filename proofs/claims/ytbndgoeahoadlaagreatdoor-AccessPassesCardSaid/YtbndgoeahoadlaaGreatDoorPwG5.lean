import Derived.Test.YtbndgoeahoadlaaGreatDoorPwF3
import Derived.Test.YtbndgoeahoadlaaGreatDoorPwU
import Derived.Test.YtbndgoeahoadlaaGreatDoorPwS
import Derived.Test.YtbndgoeahoadlaaGreatDoorPwF4
set_option linter.all false
namespace Go.PW
open Go.RowKit
def LN (l : List Int) : D := if l.isEmpty = true then .val (.slice none 0 0) else L l
theorem LN_nil : LN [] = .val (.slice none 0 0) := rfl
theorem LN_of {l : List Int} (h : 0 < l.length) : LN l = L l := by
 cases l with
 | nil => simp at h
 | cons x l => rfl
@[go_sem] theorem nz_LN (l : List Int) : nz (LN l) = L l := by
 cases l with
 | nil => rfl
 | cons x l => rw [LN_of (by simp)]; rfl
section
variable {P : Program} {env : Env}
theorem RetOK.keepD {x : D} : RetOK env (.d x) (.d x) [] := by
 intro B w0 S0 φ a w hr u hu
 refine ⟨fun _ => none, ?_, fun i ob h => (by simp at h), fun i g h => (by simp at h), fun i j g h => (by simp at h)⟩
 simp only [RepV] at hu ⊢
 exact RepD.mono (fun b o y hb hy => ⟨hy, hb.1, fun i hi => (by simp at hi)⟩) x u hu
end
end Go.PW

namespace Go.PW
open Go.RowKit
section
variable {P : Program} {B : Nat} {w0 : World} {S0 : Nat → Prop} {φ : Nat → Option Nat} {env : Env} {a : Act} {w : World}
theorem CallM.ofOwn {f : FuncId} {ds : List D} {r : V} {obs : Obs} {args : List V} {objs : List Ob} {k : Nat} (hc : CallOK P f ds r obs) (hno : args.all noO = true) (hok : ∀ v ∈ args, okD [] k v) (hds : args.map (toD [] k) = ds) :
  CallM P f args objs (r.shift objs.length) (((bare objs (0, [])).addObs obs).objs) [] := by
 refine ⟨hc.1, fun B w0 S0 φ w us gs hr hu => ?_⟩
 have hrep : RepAll w (Imm B S0 φ objs.length) ds us := by
  rw [← hds]
  exact l8 _ _ _ hu fun v hv u hvu => noO_rep (objs := []) k v u hvu (List.all_eq_true.1 hno v hv) (hok v hv)
 refine (hc.2 w _ us hr.glob hrep).mono ?_
 rintro e w' ⟨v, φr, rfl, hres⟩
 obtain ⟨φ', h1, h2⟩ := hr.called hres (.inl fun b hb => hb)
 have hid : (gs.map fun x => (k9 [] x.1, x.2)) = gs := by
  conv => rhs; rw [← List.map_id gs]
  exact List.map_congr_left fun x _ => rfl
 refine ⟨v, φ', rfl, (⟨hres.below⟩ : Grows w w').others, ?_, ?_⟩
 · rw [hid]; simpa [Env.addObs, bare] using h1
 · simpa [Env.addObs, bare] using h2
theorem CallM.ofOwn' {f : FuncId} {ds : List D} {r r' : V} {obs : Obs} {args : List V} {objs objs' : List Ob} (k : Nat) (hc : CallOK P f ds r obs) (hno : args.all noO = true) (hok : ∀ v ∈ args, okD [] k v) (hds : args.map (toD [] k) = ds)
  (hr : r.shift objs.length = r') (ho : ((bare objs (0, [])).addObs obs).objs = objs') : CallM P f args objs r' objs' [] := by
 subst hr ho; exact CallM.ofOwn hc hno hok hds
end
end Go.PW

namespace Go.PW
open Go.RowKit
section
variable {w w' : World} {S S' : Nat → Prop} {φ φ' : Nat → Option Nat} {m m' b : Nat}
end
section
variable {P : Program} {ops : Array Oper} {nt g1 : Nat} {os : Nat → List Ob} {κ : Nat → V → V} {cs : List Nat}
end
end Go.PW

namespace Go.PW
open Go.RowKit
def eqB (bo : BinOp) (z : Bool) : Bool := match bo with | .neq => !z | _ => z
@[go_sem] theorem eqB_eql (z : Bool) : eqB .eql z = z := rfl
@[go_sem] theorem eqB_neq (z : Bool) : eqB .neq z = !z := rfl
section
variable {P : Program} {env : Env} {o : Oper}
theorem F2 {ops : Array Oper} {bo : BinOp} {t yt e : TypeId} {x y : Operand} {z : Bool} (ho : o.op = .binOp bo t x y yt) (hop : bo = .eql ∨ bo = .neq) (hgc : ∀ j want, o.guard = some (j, want) → u7 (ops.toList.map (·.dst)) env.tmps (some (j, want)) = some true) (hs : C4 P t = some e)
  (hx : ∀ (w : World) (S : Nat → Prop) (φ : Nat → Option Nat) (m : Nat) (v : Value), RepV w S φ m (ev env x) v → ∃ ad n cap, v = .slice ad n cap ∧ ad.isNone = z) (hy : ev env y = .d (.val (.slice none 0 0))) (hd : l5 env o.dst) :
  Yields P ops o env.nt env.objs (get env.tmps) (A0 (eqB bo z)) := by
 refine ⟨A7 hd, fun B w0 S0 φ a w hr => ?_⟩
 have hr' : Rel B w0 S0 φ { env with tmps := G2 (o.looksAt ops) env.tmps, gs := (0, []), th := (fun _ _ => True, true) } a w := RelF.toRel (by simpa [q3] using hr)
 refine .inl ⟨?_, .inl ?_⟩
 ·
  cases hg : o.guard with
  | none => exact k7 hg _
  | some gd =>
   obtain ⟨j, want⟩ := gd
   have hops : ops.toList.toArray = ops := by simp
   have hw := o9 (all := ops.toList) hr' hg (by rw [F6 hg]; exact hgc j want hg)
   rw [hops] at hw
   exact hw
 ·
  have hmem : ∀ u, u = x ∨ u = y → u ∈ o.op.operands.toList := by
   intro u hu
   rw [ho]
   rcases hu with rfl | rfl <;> simp [Op.operands]
  have e1 : ev { env with tmps := G2 (o.looksAt ops) env.tmps, gs := (0, []), th := (fun _ _ => True, true) } x = ev env x := w7 x (hmem x (.inl rfl)) env
  have e2 : ev { env with tmps := G2 (o.looksAt ops) env.tmps, gs := (0, []), th := (fun _ _ => True, true) } y = ev env y := w7 y (hmem y (.inr rfl)) env
  have hxv := hr'.ev x
  have hyv := hr'.ev y
  rw [e1] at hxv
  rw [e2, hy] at hyv
  simp only [RepV, RepD] at hyv
  obtain ⟨ad, n, cap, hxv, hz⟩ := hx _ _ _ _ _ hxv
  subst hz
  have hu := selOf_slice hs
  rcases hop with rfl | rfl
  ·
   have hgd : (eqGuard .eql t x y (.slice ad n cap) (.slice none 0 0)).run P w = .ok () w := by unfold eqGuard; split <;> simp
   have hb : (binOp .eql t (.slice ad n cap) (.slice none 0 0)).run P w = .ok (.bool ad.isNone) w := by
    simp only [binOp, Sem.run_bind, G5 w ad n cap hu, Result.andThen_ok, Sem.run_pure]
   have hex : (execOp a.eval o).run P w = .ok (.value (.bool ad.isNone)) w := by
    simp only [execOp, ho, hxv, hyv, Sem.run_bind, hgd, hb, Result.andThen_ok, Sem.run_pure]
   exact ⟨_, w, hex, Grows.refl w, by simp [A0, eqB, RepV, RepD]⟩
  ·
   have hgd : (eqGuard .neq t x y (.slice ad n cap) (.slice none 0 0)).run P w = .ok () w := by unfold eqGuard; split <;> simp
   have hb : (binOp .neq t (.slice ad n cap) (.slice none 0 0)).run P w = .ok (.bool (!ad.isNone)) w := by
    simp only [binOp, Sem.run_bind, G5 w ad n cap hu, Result.andThen_ok, Sem.run_pure]
   have hex : (execOp a.eval o).run P w = .ok (.value (.bool (!ad.isNone))) w := by
    simp only [execOp, ho, hxv, hyv, Sem.run_bind, hgd, hb, Result.andThen_ok, Sem.run_pure]
   exact ⟨_, w, hex, Grows.refl w, by simp [A0, eqB, RepV, RepD]⟩
theorem rep_LN {w : World} {S : Nat → Prop} {φ : Nat → Option Nat} {m : Nat} {l : List Int} {v : Value} (h : RepV w S φ m (.d (LN l)) v) : ∃ ad n cap, v = .slice ad n cap ∧ ad.isNone = l.isEmpty := by
 simp only [RepV] at h
 cases l with
 | nil =>
  rw [LN_nil] at h
  simp only [RepD] at h
  exact ⟨none, 0, 0, h, rfl⟩
 | cons z l =>
  rw [LN_of (by simp)] at h
  simp only [L, RepD] at h
  obtain ⟨ad, cap, h1, _, h2 | ⟨b, o, rfl, _⟩⟩ := h
  · simp at h2
  · exact ⟨_, _, cap, h1, rfl⟩
theorem FW.binLN {ops : Array Oper} {K : Env → Prop} {rest : List Oper} {t yt e : TypeId} {x y : Operand} {l : List Int} {bo : BinOp} (hbo : bo = .eql ∨ bo = .neq) (ho : o.op = .binOp bo t x y yt) (hg : o.guard = none) (hs : C4 P t = some e)
  (hx : ev env x = .d (LN l)) (hy : ev env y = .d (.val (.slice none 0 0))) (hd : l5 env o.dst) (h : FW P ops rest (putO env o.dst (A0 (eqB bo l.isEmpty))) K) : FW P ops (o :: rest) env K :=
 ⟨_, F2 ho hbo (fun j want e => by rw [hg] at e; cases e) hs (by rw [hx]; exact fun _ _ _ _ _ => rep_LN) hy hd, h⟩
@[go_sem] theorem lenF_LN (t : TypeId) (l : List Int) : lenF P t (.d (LN l)) = lenF P t (.d (L l)) := by
 cases l with
 | nil =>
  rw [LN_nil]
  simp only [L, lenF, List.map_nil, List.length_nil]
  cases C4 P t <;> rfl
 | cons x l => rw [LN_of (by simp)]
end
end Go.PW
