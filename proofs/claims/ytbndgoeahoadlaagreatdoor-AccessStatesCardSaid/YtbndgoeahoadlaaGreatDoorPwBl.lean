/-
 A strings.Builder of the call's own: laid, checked, read as a string. For every program.
-/
import Derived.Test.YtbndgoeahoadlaaGreatDoorPwZ
import Derived.Lib.Builder
import Derived.Lib.UnsafeStr
import Derived.Lib.ConvBytes
set_option linter.all false
namespace Go.PW
open Go.RowKit

section
variable {B : Nat} {w0 : World} {S0 : Nat → Prop} {φ : Nat → Option Nat} {env : Env} {a : Act} {w w' : World} {P : Program} {ro : Option Nat} {all rest : List Oper} {K : Env → Prop}

theorem grows_bytes (w : World) (e : TypeId) (s : ByteArray) : Grows w (Lib.bytesWorld w e s) := by
 refine ⟨rfl, rfl, rfl, by rw [Lib.bytesWorld_size]; omega, fun k hk => Lib.bytesWorld_at_old w e s k hk⟩
theorem OW.bytes {o : Oper} {src dst e : TypeId} {u : TypeDesc} {x : Operand} {s : ByteArray} (ho : o.op = .convert src dst x) (hg : o.guard = none) (hs : P.underlying src = some u) (hd : P.underlying dst = some (.slice e)) (he : P.underlying e = some (.int .u8))
  (hx : ev env x = .d (Sx s)) (hdst : okDst env o.dst) (h : OW ro P all rest (putO env o.dst (.d (.list (bytesL s).length ((bytesL s).map fun x => .val (.int .u8 x))))) K) : OW ro P all (o :: rest) env K := by
 intro B w0 S0 φ a w Q hr hK
 unfold wpListIn
 rw [if_pos (wanted_none hg _)]
 have hxv : a.eval x = .string s := by
  have := hr.ev x
  rw [hx] at this
  simpa only [RepV, Sx, RepD] using this
 have hrun : (execOp a.eval o).run P w = .ok (.value (.slice (some ⟨w.heap.size, 0, none⟩) s.size (grownCap w s.size 0 e))) (Lib.bytesWorld w e s) := by
  simp [execOp, ho, hxv, Lib.run_convert_string_bytes w src dst e s hs hd he]
 have hgr := grows_bytes w e s
 refine wp_value hrun (h B w0 S0 φ _ _ Q ((hr.grow0 hgr).putO o.dst hdst _ _ ?_) hK)
 simp only [RepV, RepD]
 refine ⟨some ⟨w.heap.size, 0, none⟩, grownCap w s.size 0 e, by rw [bytesL_length], by rw [bytesL_length]; exact grownCap_ge _ _ _ _, .inr ⟨w.heap.size, 0, rfl, ?_⟩⟩
 refine RepCells.intro _ _ _ fun k hk => ?_
 have hk' : k < s.size := by rw [List.length_map, bytesL_length] at hk; exact hk
 refine ⟨⟨.inr hr.baseW, fun i hi e' => ?_⟩, _, by rw [Nat.zero_add]; exact Lib.bytesWorld_cell w e s k hk', ?_⟩
 · have := hr.live_lt (i := i) hi e'; omega
 ·
  have : ((bytesL s).map fun x => D.val (.int .u8 x)).getD k default = D.val (.int .u8 ((bytesL s).getD k 0)) := by
   rw [List.length_map] at hk
   simp [List.getD_eq_getElem?_getD, hk]
  rw [this]
  simp only [RepD]
  have h' : k < s.data.size := hk'
  rw [bytesL_getD s hk']
  simp [Array.getD_eq_getD_getElem?, List.getD_eq_getElem?_getD, h']

def V.flatV : V → V
 | .d (.val x) => .d (.val x)
 | _ => .dead
def Env.flat (env : Env) : Env := { env with tmps := env.tmps.map fun x => (x.1, x.2.flatV), objs := [], gs := (0, []) }
end
attribute [go_sem] Env.flat V.flatV
end Go.PW
