/-
 A call, its function walked within the caller's walk: the caller's slots are kept as ghosts. For every program.
-/
import Derived.Test.YtbndgoeahoadlaaGreatDoorPwW
set_option linter.all false
namespace Go.PW
open Go.RowKit
attribute [go_sem] Env.behind toOb List.zip_cons_cons List.zip_nil_left List.zip_nil_right
section
variable {P : Program} {env : Env}
theorem selOf_slice {t : TypeId} {e : TypeId} (h : selOf P t = some e) : P.underlying t = some (.slice e) := by
 unfold selOf at h
 split at h
 · rename_i e' h'; cases h; exact h'
 all_goals cases h
theorem run_equal_nil (w : World) {t e : TypeId} (ad : Option Addr) (n cap : Nat) (hu : P.underlying t = some (.slice e)) : (Op.equal t (.slice ad n cap) (.slice none 0 0)).run P w = .ok ad.isNone w := by
 have h1 : (Go.underlying t).run P w = .ok (.slice e) w := by simp [Go.underlying, hu]
 unfold Op.equal
 rw [show Op.maxDepth = Nat.succ 9999 from rfl, Op.equalIn, Sem.run_bind, h1]
 cases ad <;> rfl
theorem OW.binNil {ro : Option Nat} {all rest : List Oper} {K : Env → Prop} {o : Oper} {t yt e : TypeId} {x y : Operand} {n : Nat} {cells : List D} (ho : o.op = .binOp .eql t x y yt) (hg : o.guard = none) (hs : selOf P t = some e)
  (hx : ev env x = .d (.list n cells)) (hy : ev env y = .d (.val (.slice none 0 0))) (hd : okDst env o.dst) (h : ∀ b : Bool, (b = true → cells = []) → OW ro P all rest (putO env o.dst (vbool b)) K) : OW ro P all (o :: rest) env K := by
 intro B w0 S0 φ a w Q hr hK
 have hxv := hr.ev x
 have hyv := hr.ev y
 rw [hx] at hxv; rw [hy] at hyv
 simp only [RepV, RepD] at hxv hyv
 obtain ⟨ad, cap, hxv, _, hc⟩ := hxv
 unfold wpListIn
 rw [if_pos (wanted_none hg _)]
 have hu := selOf_slice hs
 have hex : (execOp a.eval o).run P w = .ok (.value (.bool ad.isNone)) w := by
  have hgd : (eqGuard .eql t x y (.slice ad n cap) (.slice none 0 0)).run P w = .ok () w := by unfold eqGuard; split <;> simp
  have hb : (binOp .eql t (.slice ad n cap) (.slice none 0 0)).run P w = .ok (.bool ad.isNone) w := by
   simp only [binOp, Sem.run_bind, run_equal_nil w ad n cap hu, Result.andThen_ok, Sem.run_pure]
  simp only [execOp, ho, hxv, hyv, Sem.run_bind, hgd, hb, Result.andThen_ok, Sem.run_pure]
 refine wp_value hex (h ad.isNone ?_ B w0 S0 φ _ w Q (hr.putO o.dst hd _ _ (by simp [vbool, RepV, RepD])) hK)
 intro hb
 rcases hc with hc | ⟨b, o, rfl, _⟩
 · exact hc
 · simp at hb

theorem OW.toS {ro : Option Nat} {all l : List Oper} {K : Env → Prop} (T : List (Nat × V)) (O : List Ob) (h : ∀ K' : Env → Prop, K' ⟨env.nt, T, O, env.gs, env.th⟩ → OW ro P all l env K') (hK : K ⟨env.nt, T, O, env.gs, env.th⟩) : OW ro P all l env K := h K hK
theorem OW.opA {ro : Option Nat} {all rest : List Oper} {K : Env → Prop} {o : Oper} {j : Nat} {want g : Bool} (hg : o.guard = some (j, want)) (hgc : guardC (all.map (·.dst)) env.tmps (some (j, want)) = some g)
  (hc : g = true → (pureA P (env.under g) o).1) (hd : okDst env o.dst) (h : OW ro P all rest (putO env o.dst (.guarded g (pureA P (env.under g) o).2)) K) : OW ro P all (o :: rest) env K := by
 intro B w0 S0 φ a w Q hr hK
 have hw := guardC_sound hr hg hgc
 unfold wpListIn
 rw [hw]
 cases g with
 | true =>
  rw [if_pos rfl]
  obtain ⟨v, w', h1, h2, h3⟩ := pureA_sound (hr.under rfl) (hc rfl)
  refine wp_value h1 (h B w0 S0 φ _ w' Q ((hr.grow0 h2).putO o.dst hd _ v ?_) hK)
  simp only [RepV]
  exact ⟨fun _ => h3, fun h => (by cases h)⟩
 | false =>
  rw [if_neg (by simp)]
  refine ⟨fun _ _ => trivial, h B w0 S0 φ _ _ Q (hr.putO o.dst hd _ undef ?_) hK⟩
  simp only [RepV]
  exact ⟨fun h => (by cases h), fun _ => by trivial⟩
theorem OW.step {ro : Option Nat} {all rest : List Oper} {K : Env → Prop} {o : Oper} (hg : o.guard = none) (h : match stepF P env o with | (c, env') => c ∧ OW ro P all rest env' K) : OW ro P all (o :: rest) env K := by
 intro B w0 S0 φ a w Q hr hK
 unfold wpListIn
 rw [if_pos (wanted_none hg _)]
 exact stepF_sound h.1 B w0 S0 φ a w hr _ _ (fun φ' a' w' hr' => h.2 B w0 S0 φ' a' w' Q hr' hK) ro
theorem RetOK.nilOwn {sz : Nat} {e : TypeId} : RetOK env (.d (.val (.slice none 0 0))) (.own 0 0 0 sz) [([], e)] := by
 intro B w0 S0 φ a w hr u hu
 simp only [RepV, RepD] at hu
 refine ⟨fun _ => none, ?_, fun i ob h => ?_, fun i g _ h => (by cases h), fun i j g _ _ h => (by cases h)⟩
 · simp only [RepV]; rw [hu]; exact ⟨by simp, .inl ⟨none, by simp⟩⟩
 ·
  cases i with
  | zero => simp at h; subst h; exact .inl ⟨rfl, rfl⟩
  | succ i => simp at h
end
end Go.PW
