import Derived.Test.YtbndgoeahoadlaaGreatDoorPwF4
import Derived.LoopNIn
import Derived.Test.YtbndgoeahoadlaaGreatDoorPwZ
import Derived.Lib.Builder
import Derived.Lib.UnsafeStr
import Derived.Lib.ConvBytes
set_option linter.all false
namespace Go.PW
open Go.RowKit

def V.del (d : Nat) : V → V
 | .own j off n sz => if j = d then .dead else .own (if d < j then j - 1 else j) off n sz
 | .ptr j off => if j = d then .dead else .ptr (if d < j then j - 1 else j) off
 | .slf j => if j = d then .dead else .slf (if d < j then j - 1 else j)
 | .agg cells => .agg (dels d cells)
 | .clo f caps => .clo f (dels d caps)
 | .tup vs => .tup (dels d vs)
 | .guarded c r => .guarded c (r.del d)
 | v => v
where
 dels (d : Nat) : List V → List V
 | [] => []
 | v :: vs => v.del d :: dels d vs

section
variable {w : World} {S S' : Nat → Prop} {φ φ' : Nat → Option Nat} {m m' d : Nat}
end

section
variable {ro : Option Nat} {P : Program} {B : Nat} {w0 : World} {S0 : Nat → Prop} {φ : Nat → Option Nat} {env : Env} {a : Act} {w : World}

variable {Q : Exit → Env → Prop} {c : Code}
end

theorem lenAdd {α : Type} (l : List α) (a b : Nat) : l.length + a + b = l.length + (a + b) := Nat.add_assoc ..
theorem ltP {k m : Nat} (n : Nat) (h : k < m) : (k < n + m) = True := eq_true (by omega)
theorem neP {k m : Nat} (n : Nat) (h : k < m) : (n + m = k) = False := eq_false (by omega)
theorem neP' {k m : Nat} (n : Nat) (h : k < m) : (k = n + m) = False := eq_false (by omega)
theorem ctrP_cut' {b n k : Nat} (h : b ≤ k) : (ctrP b n).map (V.cut (n + k)) = ctrP b n := by
 simp only [ctrP, List.map_map]
 refine List.map_congr_left fun j hj => ?_
 have := List.mem_range.1 hj
 show V.cut (n + k) (.ptr (j + b) 0) = .ptr (j + b) 0
 simp only [V.cut]; rw [if_pos (by omega)]
theorem famN_assoc {α : Type} [Inhabited α] (n : Nat) (F : α → Ob) (us : List α) (A B : List Ob) : famN n F us ++ A ++ B = famN n F us ++ (A ++ B) := List.append_assoc ..
theorem ctrP_kill' {b n k : Nat} (h : b ≤ k) : (ctrP b n).map (V.kill (n + k)) = ctrP b n := by
 simp only [ctrP, List.map_map]
 refine List.map_congr_left fun j hj => ?_
 have := List.mem_range.1 hj
 show V.kill (n + k) (.ptr (j + b) 0) = .ptr (j + b) 0
 simp only [V.kill]; rw [if_neg (by omega)]
theorem ctrP_frz' {b n k : Nat} (objs : List Ob) (h : b ≤ k) : (ctrP b n).map (V.frz objs (n + k)) = ctrP b n := by
 simp only [ctrP, List.map_map]
 refine List.map_congr_left fun j hj => ?_
 have := List.mem_range.1 hj
 show V.frz objs (n + k) (.ptr (j + b) 0) = .ptr (j + b) 0
 simp only [V.frz]; rw [if_neg (by omega)]
theorem leSelf (n : Nat) : (n ≤ n) = True := eq_true (Nat.le_refl n)
theorem leAddS (n k : Nat) : (n ≤ n + k) = True := eq_true (Nat.le_add_right n k)
theorem segMap {α : Type} (f : α → D) (l : List α) : seg (l.map f) 0 l.length = l.map f := by
 simp only [seg, List.drop_zero]
 exact List.take_of_length_le (by simp)
attribute [go_sem] C8 segMap leSelf leAddS ctrP_cut' ctrP_kill' ctrP_frz' famN_assoc lenAdd ltP neP neP' Nat.add_lt_add_iff_left Nat.add_left_cancel_iff
theorem takeFlat {α : Type} (F : α → List D) (k : Nat) (hF : ∀ x, (F x).length = k) (t : List α) : (t.flatMap F).take (t.length * k) = t.flatMap F := take_flat t hF rfl
theorem takeFlat1 {α : Type} (F : α → List D) (k : Nat) (hF : ∀ x, (F x).length = k) (t : List α) (l : List D) (h : l.length = k) : (t.flatMap F ++ l).take ((t.length + 1) * k) = t.flatMap F ++ l := by
 refine List.take_of_length_le ?_
 rw [List.length_append, m8 k F hF, h, Nat.add_mul]; omega
theorem allValFlat {α : Type} (F : α → List D) (h : ∀ x, (F x).all isValD = true) : ∀ (t : List α), (t.flatMap F).all isValD = true
 | [] => rfl
 | x :: t => by rw [List.flatMap_cons, List.all_append, h, allValFlat F h t]; rfl
theorem segFlatSnoc {α : Type} (F : α → List D) (k : Nat) (hF : ∀ x, (F x).length = k) (l : List α) (y : α) (c : List D) (hc : c = F y) : seg (l.flatMap F ++ c) 0 ((l.length + 1) * k) = (l ++ [y]).flatMap F := by
 subst hc
 have e : (l ++ [y]).flatMap F = l.flatMap F ++ F y := by simp
 rw [e]
 simp only [seg, List.drop_zero]
 exact takeFlat1 F k hF l (F y) (hF y)
theorem takeFlatS {α : Type} (F : α → List D) (k : Nat) (hF : ∀ x, (F x).length = k) (l : List α) (y : α) : ((l ++ [y]).flatMap F).take ((l.length + 1) * k) = (l ++ [y]).flatMap F := by
 refine List.take_of_length_le ?_
 rw [m8 k F hF, List.length_append]; exact Nat.le_refl _
end Go.PW

namespace Go.PW
open Go.RowKit

def lowC (m : Nat) : V → Prop
 | .d _ => True
 | .own i _ _ _ => i < m
 | .ptr i _ => i < m
 | .dead => True
 | _ => False
abbrev LowL (m : Nat) := { l : List V // ∀ v ∈ l, lowC m v }
theorem lowC_kill {m i : Nat} (hi : m ≤ i) : ∀ v : V, lowC m v → V.kill i v = v
 | .d x, _ => by simp only [V.kill]
 | .own j off n sz, h => by
  simp only [lowC] at h
  simp only [V.kill]
  exact if_neg (by omega)
 | .ptr j off, h => by
  simp only [lowC] at h
  simp only [V.kill]
  exact if_neg (by omega)
 | .dead, _ => by simp only [V.kill]
theorem lowC_frz {m i : Nat} (objs : List Ob) (hi : m ≤ i) : ∀ v : V, lowC m v → V.frz objs i v = v
 | .d x, _ => by simp only [V.frz]
 | .own j off n sz, h => by
  simp only [lowC] at h
  simp only [V.frz]
  exact if_neg (by omega)
 | .ptr j off, h => by
  simp only [lowC] at h
  simp only [V.frz]
  exact if_neg (by omega)
 | .dead, _ => by simp only [V.frz]
theorem lowC_cut {m i : Nat} (hi : m ≤ i) : ∀ v : V, lowC m v → V.cut i v = v
 | .d x, _ => by simp only [V.cut]
 | .own j off n sz, h => by
  simp only [lowC] at h
  simp only [V.cut]
  exact if_pos (by omega)
 | .ptr j off, h => by
  simp only [lowC] at h
  simp only [V.cut]
  exact if_pos (by omega)
 | .dead, _ => by simp only [V.cut]
theorem lowC_del {m i : Nat} (hi : m ≤ i) : ∀ v : V, lowC m v → V.del i v = v
 | .d x, _ => by simp only [V.del]
 | .own j off n sz, h => by
  simp only [lowC] at h
  simp only [V.del]
  rw [if_neg (by omega), if_neg (by omega)]
 | .ptr j off, h => by
  simp only [lowC] at h
  simp only [V.del]
  rw [if_neg (by omega), if_neg (by omega)]
 | .dead, _ => by simp only [V.del]
theorem map_same {f : V → V} : ∀ {l : List V}, (∀ v ∈ l, f v = v) → l.map f = l
 | [], _ => rfl
 | v :: l, h => by rw [List.map_cons, h v List.mem_cons_self, map_same fun x hx => h x (List.mem_cons_of_mem _ hx)]
@[go_sem] theorem low_kill {m : Nat} (o : LowL m) {i : Nat} (hi : m ≤ i) : o.1.map (V.kill i) = o.1 := map_same fun v hv => lowC_kill hi v (o.2 v hv)
@[go_sem] theorem low_frz {m : Nat} (o : LowL m) (objs : List Ob) {i : Nat} (hi : m ≤ i) : o.1.map (V.frz objs i) = o.1 := map_same fun v hv => lowC_frz objs hi v (o.2 v hv)
@[go_sem] theorem low_cut {m : Nat} (o : LowL m) {i : Nat} (hi : m ≤ i) : o.1.map (V.cut i) = o.1 := map_same fun v hv => lowC_cut hi v (o.2 v hv)
@[go_sem] theorem low_del {m : Nat} (o : LowL m) {i : Nat} (hi : m ≤ i) : o.1.map (V.del i) = o.1 := map_same fun v hv => lowC_del hi v (o.2 v hv)
end Go.PW

namespace Go.PW
open Go.RowKit

def PW.rounds (ro : Option Nat) (P : Program) (c : Code) (Q : Exit → Env → Prop) : Nat → Env → Prop
 | 0, _ => False
 | m + 1, env => PW ro P c (andThen (PW.rounds ro P c Q m) Q) env
theorem H4 {ro : Option Nat} {P : Program} {c : Code} {Q : Exit → Env → Prop} {env : Env} (m : Nat) (h : PW.rounds ro P c Q m env) : PW ro P (.loop c) Q env := by
 intro B w0 S0 φ a w hr
 refine wpIn_loop_rounds m ?_
 induction m generalizing env φ a w with
 | zero => exact h.elim
 | succ m ih =>
  rw [roundsIn_succ]
  refine wpIn_mono (h B w0 S0 φ a w hr) ?_
  rintro e a' w' ⟨env', φ', hq, hr'⟩
  cases e with
  | normal => exact ih hq φ' a' w' hr'
  | _ => exact ⟨env', φ', hq, hr'⟩
theorem w64_add01 : w64 ((0 : Int) + (1 : Int)) = 1 := by rw [n4 (by omega)]; rfl
theorem w64_add11 : w64 ((1 : Int) + (1 : Int)) = 2 := by rw [n4 (by omega)]; rfl
attribute [go_sem] w64_add01 w64_add11
end Go.PW
namespace Go.PW
open Go.RowKit

section
variable {B : Nat} {w0 : World} {S0 : Nat → Prop} {φ : Nat → Option Nat} {env : Env} {a : Act} {w w' : World} {P : Program} {ro : Option Nat} {all rest : List Oper} {K : Env → Prop}

theorem grows_bytes (w : World) (e : TypeId) (s : ByteArray) : Grows w (Lib.bytesWorld w e s) := by
 refine ⟨rfl, rfl, rfl, by rw [Lib.bytesWorld_size]; omega, fun k hk => Lib.bytesWorld_at_old w e s k hk⟩
theorem OW.bytes {o : Oper} {src dst e : TypeId} {u : TypeDesc} {x : Operand} {s : ByteArray} (ho : o.op = .convert src dst x) (hg : o.guard = none) (hs : P.underlying src = some u) (hd : P.underlying dst = some (.slice e)) (he : P.underlying e = some (.int .u8))
  (hx : ev env x = .d (Sx s)) (hdst : l5 env o.dst) (h : OW ro P all rest (putO env o.dst (.d (.list (bytesL s).length ((bytesL s).map fun x => .val (.int .u8 x))))) K) : OW ro P all (o :: rest) env K := by
 intro B w0 S0 φ a w Q hr hK
 unfold wpListIn
 rw [if_pos (k7 hg _)]
 have hxv : a.eval x = .string s := by
  have := hr.ev x
  rw [hx] at this
  simpa only [RepV, Sx, RepD] using this
 have hrun : (execOp a.eval o).run P w = .ok (.value (.slice (some ⟨w.heap.size, 0, none⟩) s.size (grownCap w s.size 0 e))) (Lib.bytesWorld w e s) := by
  simp [execOp, ho, hxv, Lib.run_convert_string_bytes w src dst e s hs hd he]
 have hgr := grows_bytes w e s
 refine B3 hrun (h B w0 S0 φ _ _ Q ((hr.grow0 hgr).putO o.dst hdst _ _ ?_) hK)
 simp only [RepV, RepD]
 refine ⟨some ⟨w.heap.size, 0, none⟩, grownCap w s.size 0 e, by rw [bytesL_length], by rw [bytesL_length]; exact grownCap_ge _ _ _ _, .inr ⟨w.heap.size, 0, rfl, ?_⟩⟩
 refine RepCells.intro _ _ _ fun k hk => ?_
 have hk' : k < s.size := by rw [List.length_map, bytesL_length] at hk; exact hk
 refine ⟨⟨.inr hr.baseW, fun i hi e' => ?_⟩, _, by rw [Nat.zero_add]; exact Lib.bytesWorld_cell w e s k hk', ?_⟩
 · have := hr.live_lt (i := i) hi e'; omega
 ·
  have : ((bytesL s).map fun x => D.val (.int .u8 x)).getD k default = D.val (.int .u8 ((bytesL s).getD k 0)) := by
   rw [List.length_map] at hk
   simp [List.getD_eq_getElem?_getD, hk]
  rw [this]
  simp only [RepD]
  have h' : k < s.data.size := hk'
  rw [bytesL_getD s hk']
  simp [Array.getD_eq_getD_getElem?, List.getD_eq_getElem?_getD, h']

def V.flatV : V → V
 | .d (.val x) => .d (.val x)
 | _ => .dead
def Env.flat (env : Env) : Env := { env with tmps := env.tmps.map fun x => (x.1, x.2.flatV), objs := [], gs := (0, []) }
end
attribute [go_sem] Env.flat V.flatV
end Go.PW
