/-
 A scope within loops and blocks, through which the run goes without a jump. For every program.
-/
import Derived.Test.YtklejiafioalnaaPwZ
set_option linter.all false
namespace Go.PW
open Go.RowKit
theorem PW.scopeG {ro : Option Nat} {P : Program} {c : Code} {env : Env} {Q : Exit → Env → Prop} (hng : ∀ l e, Q (.goto l) e → False) (h : PW ro P c Q env) : PW ro P (.scope c) Q env := fun B w0 S0 φ a w hr =>
 wpIn_scope (fun l _ _ ⟨e, _, hq, _⟩ => hng l e hq) (h B w0 S0 φ a w hr)
theorem PW.noGoto {P : Program} {rs : List ResultVar} {r : V} {obs : Obs} {l : Nat} {e : Env} (h : PW.Ends P rs r obs (.goto l) e) : False := by
 unfold PW.Ends at h; rcases h.1 with h | h <;> cases h
theorem subsub1 {α : Type} (f : α → D) (t : List α) (i n j : Nat) (a : α) (h : j < n) (h2 : i + j < t.length) : sub (sub (t.map f) i n) j 1 = [f (t.getD (i + j) a)] := by
 simp only [sub, List.range_one, List.map_cons, List.map_nil, Nat.add_zero]
 rw [show (List.map (fun j => (t.map f).getD (i + j) default) (List.range n)).getD j default = (t.map f).getD (i + j) default by simp [List.getD_eq_getElem?_getD, h], getD_mapF f t (i + j) a h2]
end Go.PW

set_option linter.all false
set_option maxHeartbeats 1000000
namespace Go.PW
open Go.RowKit
section
variable {P : Program} {Q : Exit → Env → Prop} {env : Env}
theorem PW.rangeB {g : Operand} {ps : Array Tmp} {assign body : Code} {gf : FuncId} {x : D} {fn : Func} {cg : Code} {nt : Nat} (pend : Nat → Option Code)
  (hth : env.th.1 = fun _ _ => True) (hg : ev env g = .bnd gf x) (hf : P.funcs[gf]? = some fn) (hb : fn.body = some cg) (hres : fn.results.toList = []) (hnt : fn.ntmps = nt) (hcall : ∀ args w, (callFunc gf args).run P w = .ok (.enter gf args) w)
  (h : ∀ c : LoopCtx, c.ps = ps → c.assign = assign → c.body = body → c.pend = pend → env.nt ≤ c.ts.size →
   PW none P cg (fun e env1 => (e = .normal ∨ e = .ret) ∧ ∃ j, env1.th = (c.th j, false) ∧ env1.gs = (env.objs.length, toG env.tmps c.ts env.objs.length ++ env.gs.2) ∧
     (j = 0 → Q .normal (env.behind env1.objs (fun _ _ => True, true))) ∧ (j ≠ 0 → (pend j = some .ret ∧ Q .ret (env.behind env1.objs (fun _ _ => True, true))) ∨ ∃ id, pend j = some (.exit id) ∧ Q (.exit id) (env.behind env1.objs (fun _ _ => True, true))))
    ⟨nt, [(0, V.d x), (1, V.d (.val (.func (.yield c.L) #[] #[])))], env.objs, (env.objs.length, toG env.tmps c.ts env.objs.length ++ env.gs.2), (c.th 0, false)⟩) :
  PW none P (.rangeFunc g ps assign body) Q env := by
 intro B w0 S0 φ a w hr
 refine wpIn_rangeFunc ?_
 intro fnid _
 have hev := hr.ev g
 obtain ⟨u0, hcs, hrepc⟩ : ∃ u0 : Value, a.eval g = .func (.func gf) #[u0] #[] ∧ RepD w (Imm B S0 φ env.objs.length) x u0 := by
  rw [hg] at hev
  simpa only [RepV] using hev
 obtain ⟨c, hc⟩ : ∃ c : LoopCtx, c = ⟨w, w.heap.size + 1, w.heap.size, fnid, a.tmps, ps, assign, body, pend⟩ := ⟨_, rfl⟩
 obtain ⟨W1, hW1⟩ : ∃ W1, (w.alloc (.deferred (some []))).alloc (.loop (c.recd 0)) = W1 := ⟨_, rfl⟩
 have hcL : c.L = w.heap.size + 1 := by rw [hc]
 have hcD : c.D = w.heap.size := by rw [hc]
 have hct : c.ts = a.tmps := by rw [hc]
 have hcw : c.w = w := by rw [hc]
 have hL1 : W1.heap[c.L]? = some (.loop (c.recd 0)) := by
  rw [← hW1, hcL]; have := World.alloc_heap_new (w.alloc (.deferred (some []))) (.loop (c.recd 0)); rwa [World.size_alloc] at this
 have hK1 : W1.heap[c.D]? = some (.deferred (some [])) := by
  rw [← hW1, hcD]; exact (Below.heap_alloc _ _ _ (by simp)).trans (World.alloc_heap_new w _)
 have hgr : Grows w W1 := by rw [← hW1]; exact (Grows.alloc w _).trans (Grows.alloc _ _)
 have hr1 := hr.grow0 hgr
 have ht1 := hgr.turns0 hr
 have hBD : B ≤ c.D := by rw [hcD]; exact hr.baseW
 have hBL : B ≤ c.L := by rw [hcL]; have := hr.baseW; omega
 refine ⟨c.L, [mark c.D], W1, { target := .fn (.func gf) #[], args := #[u0] ++ #[.func (.yield c.L) #[] #[]] }, W1, gf, #[u0] ++ #[.func (.yield c.L) #[] #[]], W1, ?_, ?_, ?_, ?_, fun _ => Nat.le_refl _, ?_⟩
 · rw [← hW1, hc]; exact run_enterLoop_outer _ _ _ _ _
 ·
  simp only [resolve, hcs]
  simp [go_sem]
 · intro f' _; trivial
 · simp [invoke, go_sem, hcall]
 ·
  refine (callsIn_Fd (n := 0)).2 ((callsIn_Fd (ro := none) (n := 1)).1 (callsIn_of_wp hf hb trivial ?_ rfl))
  have hargs : #[u0] ++ #[Value.func (.yield c.L) #[] #[]] = ([u0, Value.func (.yield c.L) #[] #[]] : List Value).toArray := by simp
  rw [hargs]
  have hus : RepVs W1 (Imm B S0 φ env.objs.length) φ env.objs.length [V.d x, V.d (.val (.func (.yield c.L) #[] #[]))] ([u0, Value.func (.yield c.L) #[] #[]] : List Value) := by
   simp only [RepVs]
   exact ⟨_, _, rfl, by simp only [RepV]; exact RepD.mono ht1.keeps _ _ hrepc, _, _, rfl, by simp [RepV, RepD], rfl⟩
  have hrel : Rel B w0 S0 φ ⟨nt, [(0, V.d x), (1, V.d (.val (.func (.yield c.L) #[] #[])))], env.objs, (env.objs.length, toG env.tmps c.ts env.objs.length ++ env.gs.2), (c.th 0, false)⟩
    { tmps := ([u0, Value.func (.yield c.L) #[] #[]] : List Value).toArray ++ Array.replicate (fn.ntmps - ([u0, Value.func (.yield c.L) #[] #[]] : List Value).toArray.size) undef, defers := [] } W1 := by
   refine ⟨hr1.below, hr1.base, ⟨fun _ => rfl, ⟨[], rfl, List.nodup_nil, fun D hD => by simp at hD⟩, ⟨hL1, hBL, hK1, by rw [hcL, hcD]; omega, by rw [hcL, hcw]; omega, by rw [hcw]; exact hgr.others⟩, c.th_keeps 0 B⟩, ?_, ?_, hr1.objs, hr1.low, hr1.inj, Nat.le_refl _, fun x hx => ?_⟩
   · simp; omega
   ·
    intro t
    rw [show get [(0, V.d x), (1, V.d (.val (.func (.yield c.L) #[] #[])))] t = [V.d x, V.d (.val (.func (.yield c.L) #[] #[]))].getD t .dead by
     match t with
     | 0 => rfl
     | 1 => rfl
     | t + 2 => simp [get]]
    by_cases ht : t < [V.d x, V.d (.val (.func (.yield c.L) #[] #[]))].length
    ·
     obtain ⟨v, hv, hrep⟩ := RepVs.get _ _ hus t ht
     have e1 : (([u0, Value.func (.yield c.L) #[] #[]] : List Value).toArray ++ Array.replicate (fn.ntmps - ([u0, Value.func (.yield c.L) #[] #[]] : List Value).toArray.size) undef).getD t undef = v := by
      have ht' : t < ([u0, Value.func (.yield c.L) #[] #[]] : List Value).length := (List.getElem?_eq_some_iff.1 hv).1
      rw [Array.getD_eq_getD_getElem?, Array.getElem?_append_left (by simpa using ht')]
      simpa using congrArg (fun o => o.getD undef) hv
     rw [e1]; exact hrep
    ·
     rw [show [V.d x, V.d (.val (.func (.yield c.L) #[] #[]))].getD t .dead = .dead by rw [List.getD_eq_getElem?_getD, List.getElem?_eq_none (Nat.le_of_not_lt ht)]; rfl]
     simp [RepV]
   ·
    rcases List.mem_append.1 hx with hx | hx
    · rw [hct] at hx; exact toG_rep hr1 x hx
    · exact ⟨Nat.le_trans (hr1.ghost.2 x hx).1 hr1.ghost.1, (hr1.ghost.2 x hx).2⟩
  refine wpIn_mono (h c (by rw [hc]) (by rw [hc]) (by rw [hc]) (by rw [hc]) (by rw [hct]; exact hr.size) B w0 S0 φ _ W1 hrel) ?_
  rintro e a1 W2 ⟨env1, φ1, ⟨he, j, hth1, hgs, hQ0, hQ1⟩, hr2⟩
  have hm := hr2.nodef
  rw [hth1] at hm
  have hd : a1.defers = [] := hm.1 rfl
  obtain ⟨hL2, _, hD2, hDL, hLw, hkw⟩ := hm.2.2.1
  rw [hcw] at hLw hkw
  have hres' : (results fn a1.tmps).run P W2 = .ok (.tuple #[]) W2 := by
   have : fn.results = #[] := Array.toList_inj.1 (by simpa using hres)
   simp [results, this]
  -- the caller's state again
  have hback : ∀ o', Rel B w0 S0 φ1 (env.behind env1.objs (fun _ _ => True, true)) { a with defers := mark c.D :: a.defers } (W2.putObj c.L o') := by
   intro o'
   have h3 := hr2.turnL o' hL2 hBL (p' := fun _ _ => True) trivial (fun _ _ _ _ => trivial)
   refine ⟨h3.below, h3.base, ⟨fun e => by simp [Env.behind] at e, ?_, trivial, fun _ _ _ _ => trivial⟩, hr.size, fun t => ?_, h3.objs, h3.low, h3.inj, ?_, fun x hx => ?_⟩
   ·
    obtain ⟨_, ⟨Ds, g1, g2, g3⟩, _, _⟩ := hr.nodef
    refine ⟨c.D :: Ds, by simp [g1], List.nodup_cons.2 ⟨fun hD => ?_, g2⟩, fun D hD => ?_⟩
    · have := heap_lt (g3 _ hD).2; rw [hcD] at this; omega
    ·
     rcases List.mem_cons.1 hD with rfl | hD
     · exact ⟨hBD, (World.putObj_heap_other hDL).trans hD2⟩
     ·
      have h5 := g3 D hD
      refine ⟨h5.1, (World.putObj_heap_other ?_).trans (hkw.same _ _ h5.2 rfl)⟩
      have := heap_lt h5.2; omega
   ·
    have := slotsBack h3 (tmps := env.tmps) (us := c.ts) (m := env.objs.length) (G := env.gs.2) (by simp only [hgs]) t
    rw [hct] at this
    exact this
   ·
    have h5 := h3.ghost.1
    simp only [hgs] at h5
    exact Nat.le_trans hr.ghost.1 h5
   · exact ⟨(hr.ghost.2 x hx).1, (h3.ghost.2 x (by simp only [hgs]; exact List.mem_append_right _ hx)).2⟩
  have hfin : rangePost (Fd none) 1 P c.L (Sat B w0 S0 Q) { a with defers := [mark c.D] ++ a.defers } (.returned (.tuple #[])) W2 := by
   refine ⟨(c.recd j).pending, _, run_endLoop hL2 (by simp only [LoopCtx.recd]; split <;> simp), ?_⟩
   by_cases hj : j = 0
   ·
    subst hj
    simp only [LoopCtx.recd, if_true]
    exact ⟨_, φ1, hQ0 rfl, hback _⟩
   ·
    simp only [LoopCtx.recd, if_neg hj]
    have hcp : c.pend = pend := by rw [hc]
    rw [hcp]
    rcases hQ1 hj with ⟨h1, h2⟩ | ⟨id, h1, h2⟩
    · rw [h1]; exact wpIn_ret ⟨_, φ1, h2, hback _⟩
    · rw [h1]; exact wpIn_exit ⟨_, φ1, h2, hback _⟩
  rcases he with rfl | rfl <;> exact ⟨hd, _, hres', hfin⟩


theorem row8 {α : Type} (f : α → D) (t : List α) (i j : Nat) (a : α) (h : j < 8) (h2 : i + j < t.length) :
  ([(t.map f).getD i default, (t.map f).getD (i + 1) default, (t.map f).getD (i + 2) default, (t.map f).getD (i + 3) default, (t.map f).getD (i + 4) default, (t.map f).getD (i + 5) default, (t.map f).getD (i + 6) default, (t.map f).getD (i + 7) default] : List D).getD j default = f (t.getD (i + j) a) := by
 have e := getD_mapF f t (i + j) a h2
 match j, h with
 | 0, _ => exact e
 | 1, _ => exact e
 | 2, _ => exact e
 | 3, _ => exact e
 | 4, _ => exact e
 | 5, _ => exact e
 | 6, _ => exact e
 | 7, _ => exact e
theorem OW.bound {ro : Option Nat} {all rest : List Oper} {K : Env → Prop} {o : Oper} {f : FuncId} {first caps : Array Operand} {p : Operand} {x : D} (ho : o.op = .makeFunc (.func f) first caps) (hg : o.guard = none) (hf : first = #[p]) (hcp : caps = #[]) (hx : ev env p = .d x)
  (hd : okDst env o.dst) (h : OW ro P all rest (putO env o.dst (.bnd f x)) K) : OW ro P all (o :: rest) env K := by
 intro B w0 S0 φ a w Q hr hK
 unfold wpListIn
 rw [if_pos (wanted_none hg _)]
 have hev := hr.ev p
 rw [hx] at hev
 refine wp_value (v := .func (.func f) #[a.eval p] #[]) (by simp [execOp, ho, Instr.makeFunc, hf, hcp]) (h B w0 S0 φ _ w Q (hr.putO o.dst hd _ _ ?_) hK)
 simp only [RepV]
 simp only [RepV] at hev
 exact ⟨_, rfl, hev⟩

theorem OW.split {ro : Option Nat} {all rest : List Oper} {K : Env → Prop} {o : Oper} {j : Nat} {want g : Bool} (r : V) (hg : o.guard = some (j, want)) (hgc : guardC (all.map (·.dst)) env.tmps (some (j, want)) = some g)
  (hd : okDst env o.dst)
  (ht : g = true → OW ro P all ({ o with guard := none } :: rest) (env.under g) K)
  (hf : g = false → OW ro P all rest (putO env o.dst (.guarded false r)) K) : OW ro P all (o :: rest) env K := by
 intro B w0 S0 φ a w Q hr hK
 have hw := guardC_sound hr hg hgc
 unfold wpListIn
 rw [hw]
 cases g with
 | true =>
  rw [if_pos rfl]
  have := ht rfl B w0 S0 φ a w Q (hr.under rfl) hK
  unfold wpListIn at this
  rw [if_pos (wanted_none rfl _)] at this
  exact this
 | false =>
  rw [if_neg (by simp)]
  refine ⟨fun _ _ => trivial, hf rfl B w0 S0 φ _ _ Q (hr.putO o.dst hd _ undef ?_) hK⟩
  simp only [RepV]
  exact ⟨fun h => (by cases h), fun _ => by trivial⟩
end
end Go.PW

namespace Go.PW
open Go.RowKit

def famN {α : Type} [Inhabited α] (n : Nat) (F : α → Ob) (us : List α) : List Ob := (List.range n).map fun k => F (us.getD k default)
section
variable {α : Type} [Inhabited α] {n : Nat} {F : α → Ob} {us : List α} {R : List Ob}
theorem famN_length : (famN n F us).length = n := by simp [famN]
theorem famN_hi (n : Nat) (F : α → Ob) (us : List α) (R : List Ob) (k : Nat) : (famN n F us ++ R)[n + k]? = R[k]? := by
 rw [List.getElem?_append_right (by rw [famN_length]; omega), famN_length]; congr 1; omega
theorem famN_hi0 (n : Nat) (F : α → Ob) (us : List α) (R : List Ob) : (famN n F us ++ R)[n]? = R[0]? := famN_hi n F us R 0
theorem famN_setHi (n : Nat) (F : α → Ob) (us : List α) (R : List Ob) (k : Nat) (x : Ob) : (famN n F us ++ R).set (n + k) x = famN n F us ++ R.set k x := by
 rw [List.set_append_right _ _ (by rw [famN_length]; omega), famN_length]; congr 2; omega
theorem famN_setHi0 (n : Nat) (F : α → Ob) (us : List α) (R : List Ob) (x : Ob) : (famN n F us ++ R).set n x = famN n F us ++ R.set 0 x := famN_setHi n F us R 0 x
theorem famN_snoc (F : α → Ob) (us : List α) (x : α) : famN us.length F us ++ [F x] = famN (us ++ [x]).length F (us ++ [x]) := by
 refine List.ext_getElem (by simp [famN]) fun j h1 h2 => ?_
 simp only [famN, List.length_append, List.length_map, List.length_range, List.length_cons, List.length_nil, Nat.zero_add] at h1 h2
 by_cases e : j < us.length
 · rw [List.getElem_append_left (by simpa [famN] using e)]; simp [famN, List.getElem?_append_left e]
 ·
  have : j = us.length := by omega
  subst this; simp [famN]
theorem famN_take (n : Nat) (F : α → Ob) (us : List α) (R : List Ob) (j : Nat) : (famN n F us ++ R).take (n + j) = famN n F us ++ R.take j := by
 rw [List.take_append, famN_length, List.take_of_length_le (by rw [famN_length]; omega)]; congr 2; omega
theorem famN_take0 (n : Nat) (F : α → Ob) (us : List α) (R : List Ob) : (famN n F us ++ R).take n = famN n F us := by have := famN_take n F us R 0; simpa using this
theorem famN_takeAll (n : Nat) (F : α → Ob) (us : List α) : (famN n F us).take n = famN n F us := List.take_of_length_le (by rw [famN_length]; exact Nat.le_refl _)

end

def ctrP (b n : Nat) : List V := (List.range n).map fun k => V.ptr (k + b) 0
theorem ctrP_length (b n : Nat) : (ctrP b n).length = n := by simp [ctrP]
theorem ctrP_one (b n : Nat) : (ctrP b n).all oneV = true := by
 rw [List.all_eq_true]; intro v hv; obtain ⟨k, _, rfl⟩ := List.mem_map.1 hv; rfl
theorem ctrP_map (b n : Nat) (g : V → V) (hg : ∀ k, k < n → g (.ptr (k + b) 0) = .ptr (k + b) 0) : (ctrP b n).map g = ctrP b n := by
 rw [ctrP, List.map_map]; exact List.map_congr_left fun k hk => hg k (List.mem_range.1 hk)
theorem ctrP_kill (b n i : Nat) (h : i < b) : (ctrP b n).map (V.kill i) = ctrP b n := ctrP_map b n _ fun k _ => by simp only [V.kill]; rw [if_neg (by omega)]
theorem ctrP_killHi (b n i : Nat) (h : n + b ≤ i) : (ctrP b n).map (V.kill i) = ctrP b n := ctrP_map b n _ fun k hk => by simp only [V.kill]; rw [if_neg (by omega)]
theorem ctrP_cut (b n m : Nat) (h : n + b ≤ m) : (ctrP b n).map (V.cut m) = ctrP b n := ctrP_map b n _ fun k hk => by simp only [V.cut]; rw [if_pos (by omega)]
theorem ctrP_snoc (b n : Nat) : ctrP b n ++ [.ptr (n + b) 0] = ctrP b (n + 1) := by simp [ctrP, List.range_succ]
theorem ctrP_nil (b : Nat) : ctrP b 0 = [] := rfl

def ptrO (b : Nat) (i : Int) : V := if i < 0 then .d (.val (.pointer none)) else .ptr (i.toNat + b) 0
theorem ptrO_pos {b : Nat} {i : Int} (h : 0 ≤ i) : ptrO b i = .ptr (i.toNat + b) 0 := if_neg (by omega)
theorem ptrO_nat (b k : Nat) : ptrO b (k : Int) = .ptr (k + b) 0 := by rw [ptrO_pos (by omega), Int.toNat_natCast]
theorem ptrO_nil (b : Nat) : ptrO b (-1) = .d (.val (.pointer none)) := rfl
theorem ctrP_seg (b n : Nat) : seg (ctrP b n) 0 n = ctrP b n := by rw [seg, List.drop_zero]; exact List.take_of_length_le (by rw [ctrP_length]; exact Nat.le_refl _)
attribute [go_sem] famN_length famN_hi famN_hi0 famN_setHi famN_setHi0 famN_take famN_take0 famN_takeAll ctrP_length ctrP_one ctrP_seg ctrP_nil
end Go.PW

namespace Go.PW
open Go.RowKit
section
variable {ro : Option Nat} {P : Program} {Q : Exit → Env → Prop} {c : Code} {env : Env} {σ R τ : Type}
end
end Go.PW

namespace Go.PW
open Go.RowKit
theorem famN_snoc' {α : Type} [Inhabited α] (F : α → Ob) (us : List α) (x : α) : famN (us.length + 1) F (us ++ [x]) = famN us.length F us ++ [F x] := by
 have := famN_snoc F us x
 rw [List.length_append, List.length_singleton] at this
 exact this.symm
theorem famN_zero {α : Type} [Inhabited α] (F : α → Ob) (us : List α) : famN 0 F us = [] := rfl
theorem ctrP_succ (b n : Nat) : ctrP b (n + 1) = ctrP b n ++ [.ptr (n + b) 0] := (ctrP_snoc b n).symm
attribute [go_sem] famN_snoc' famN_zero ctrP_succ ctrP_kill ctrP_killHi ctrP_cut ptrO_nil ptrO_nat
theorem subV6 (cells : List V) (k : Nat) : subV cells k 6 = [cells.getD k vdef, cells.getD (k + 1) vdef, cells.getD (k + 2) vdef, cells.getD (k + 3) vdef, cells.getD (k + 4) vdef, cells.getD (k + 5) vdef] := by simp [subV, List.range_succ]
theorem sub6 (cells : List D) (k : Nat) : sub cells k 6 = [cells.getD k default, cells.getD (k + 1) default, cells.getD (k + 2) default, cells.getD (k + 3) default, cells.getD (k + 4) default, cells.getD (k + 5) default] := by simp [sub, List.range_succ]
theorem subV7 (cells : List V) (k : Nat) : subV cells k 7 = [cells.getD k vdef, cells.getD (k + 1) vdef, cells.getD (k + 2) vdef, cells.getD (k + 3) vdef, cells.getD (k + 4) vdef, cells.getD (k + 5) vdef, cells.getD (k + 6) vdef] := by simp [subV, List.range_succ]
theorem sub7 (cells : List D) (k : Nat) : sub cells k 7 = [cells.getD k default, cells.getD (k + 1) default, cells.getD (k + 2) default, cells.getD (k + 3) default, cells.getD (k + 4) default, cells.getD (k + 5) default, cells.getD (k + 6) default] := by simp [sub, List.range_succ]
theorem subV8 (cells : List V) (k : Nat) : subV cells k 8 = [cells.getD k vdef, cells.getD (k + 1) vdef, cells.getD (k + 2) vdef, cells.getD (k + 3) vdef, cells.getD (k + 4) vdef, cells.getD (k + 5) vdef, cells.getD (k + 6) vdef, cells.getD (k + 7) vdef] := by simp [subV, List.range_succ]
theorem sub8 (cells : List D) (k : Nat) : sub cells k 8 = [cells.getD k default, cells.getD (k + 1) default, cells.getD (k + 2) default, cells.getD (k + 3) default, cells.getD (k + 4) default, cells.getD (k + 5) default, cells.getD (k + 6) default, cells.getD (k + 7) default] := by simp [sub, List.range_succ]
theorem subV9 (cells : List V) (k : Nat) : subV cells k 9 = [cells.getD k vdef, cells.getD (k + 1) vdef, cells.getD (k + 2) vdef, cells.getD (k + 3) vdef, cells.getD (k + 4) vdef, cells.getD (k + 5) vdef, cells.getD (k + 6) vdef, cells.getD (k + 7) vdef, cells.getD (k + 8) vdef] := by simp [subV, List.range_succ]
theorem sub9 (cells : List D) (k : Nat) : sub cells k 9 = [cells.getD k default, cells.getD (k + 1) default, cells.getD (k + 2) default, cells.getD (k + 3) default, cells.getD (k + 4) default, cells.getD (k + 5) default, cells.getD (k + 6) default, cells.getD (k + 7) default, cells.getD (k + 8) default] := by simp [sub, List.range_succ]
theorem subV10 (cells : List V) (k : Nat) : subV cells k 10 = [cells.getD k vdef, cells.getD (k + 1) vdef, cells.getD (k + 2) vdef, cells.getD (k + 3) vdef, cells.getD (k + 4) vdef, cells.getD (k + 5) vdef, cells.getD (k + 6) vdef, cells.getD (k + 7) vdef, cells.getD (k + 8) vdef, cells.getD (k + 9) vdef] := by simp [subV, List.range_succ]
theorem sub10 (cells : List D) (k : Nat) : sub cells k 10 = [cells.getD k default, cells.getD (k + 1) default, cells.getD (k + 2) default, cells.getD (k + 3) default, cells.getD (k + 4) default, cells.getD (k + 5) default, cells.getD (k + 6) default, cells.getD (k + 7) default, cells.getD (k + 8) default, cells.getD (k + 9) default] := by simp [sub, List.range_succ]
theorem subV11 (cells : List V) (k : Nat) : subV cells k 11 = [cells.getD k vdef, cells.getD (k + 1) vdef, cells.getD (k + 2) vdef, cells.getD (k + 3) vdef, cells.getD (k + 4) vdef, cells.getD (k + 5) vdef, cells.getD (k + 6) vdef, cells.getD (k + 7) vdef, cells.getD (k + 8) vdef, cells.getD (k + 9) vdef, cells.getD (k + 10) vdef] := by simp [subV, List.range_succ]
theorem sub11 (cells : List D) (k : Nat) : sub cells k 11 = [cells.getD k default, cells.getD (k + 1) default, cells.getD (k + 2) default, cells.getD (k + 3) default, cells.getD (k + 4) default, cells.getD (k + 5) default, cells.getD (k + 6) default, cells.getD (k + 7) default, cells.getD (k + 8) default, cells.getD (k + 9) default, cells.getD (k + 10) default] := by simp [sub, List.range_succ]
theorem subV12 (cells : List V) (k : Nat) : subV cells k 12 = [cells.getD k vdef, cells.getD (k + 1) vdef, cells.getD (k + 2) vdef, cells.getD (k + 3) vdef, cells.getD (k + 4) vdef, cells.getD (k + 5) vdef, cells.getD (k + 6) vdef, cells.getD (k + 7) vdef, cells.getD (k + 8) vdef, cells.getD (k + 9) vdef, cells.getD (k + 10) vdef, cells.getD (k + 11) vdef] := by simp [subV, List.range_succ]
theorem sub12 (cells : List D) (k : Nat) : sub cells k 12 = [cells.getD k default, cells.getD (k + 1) default, cells.getD (k + 2) default, cells.getD (k + 3) default, cells.getD (k + 4) default, cells.getD (k + 5) default, cells.getD (k + 6) default, cells.getD (k + 7) default, cells.getD (k + 8) default, cells.getD (k + 9) default, cells.getD (k + 10) default, cells.getD (k + 11) default] := by simp [sub, List.range_succ]
theorem subV13 (cells : List V) (k : Nat) : subV cells k 13 = [cells.getD k vdef, cells.getD (k + 1) vdef, cells.getD (k + 2) vdef, cells.getD (k + 3) vdef, cells.getD (k + 4) vdef, cells.getD (k + 5) vdef, cells.getD (k + 6) vdef, cells.getD (k + 7) vdef, cells.getD (k + 8) vdef, cells.getD (k + 9) vdef, cells.getD (k + 10) vdef, cells.getD (k + 11) vdef, cells.getD (k + 12) vdef] := by simp [subV, List.range_succ]
theorem sub13 (cells : List D) (k : Nat) : sub cells k 13 = [cells.getD k default, cells.getD (k + 1) default, cells.getD (k + 2) default, cells.getD (k + 3) default, cells.getD (k + 4) default, cells.getD (k + 5) default, cells.getD (k + 6) default, cells.getD (k + 7) default, cells.getD (k + 8) default, cells.getD (k + 9) default, cells.getD (k + 10) default, cells.getD (k + 11) default, cells.getD (k + 12) default] := by simp [sub, List.range_succ]
theorem subV14 (cells : List V) (k : Nat) : subV cells k 14 = [cells.getD k vdef, cells.getD (k + 1) vdef, cells.getD (k + 2) vdef, cells.getD (k + 3) vdef, cells.getD (k + 4) vdef, cells.getD (k + 5) vdef, cells.getD (k + 6) vdef, cells.getD (k + 7) vdef, cells.getD (k + 8) vdef, cells.getD (k + 9) vdef, cells.getD (k + 10) vdef, cells.getD (k + 11) vdef, cells.getD (k + 12) vdef, cells.getD (k + 13) vdef] := by simp [subV, List.range_succ]
theorem sub14 (cells : List D) (k : Nat) : sub cells k 14 = [cells.getD k default, cells.getD (k + 1) default, cells.getD (k + 2) default, cells.getD (k + 3) default, cells.getD (k + 4) default, cells.getD (k + 5) default, cells.getD (k + 6) default, cells.getD (k + 7) default, cells.getD (k + 8) default, cells.getD (k + 9) default, cells.getD (k + 10) default, cells.getD (k + 11) default, cells.getD (k + 12) default, cells.getD (k + 13) default] := by simp [sub, List.range_succ]
theorem subV15 (cells : List V) (k : Nat) : subV cells k 15 = [cells.getD k vdef, cells.getD (k + 1) vdef, cells.getD (k + 2) vdef, cells.getD (k + 3) vdef, cells.getD (k + 4) vdef, cells.getD (k + 5) vdef, cells.getD (k + 6) vdef, cells.getD (k + 7) vdef, cells.getD (k + 8) vdef, cells.getD (k + 9) vdef, cells.getD (k + 10) vdef, cells.getD (k + 11) vdef, cells.getD (k + 12) vdef, cells.getD (k + 13) vdef, cells.getD (k + 14) vdef] := by simp [subV, List.range_succ]
theorem sub15 (cells : List D) (k : Nat) : sub cells k 15 = [cells.getD k default, cells.getD (k + 1) default, cells.getD (k + 2) default, cells.getD (k + 3) default, cells.getD (k + 4) default, cells.getD (k + 5) default, cells.getD (k + 6) default, cells.getD (k + 7) default, cells.getD (k + 8) default, cells.getD (k + 9) default, cells.getD (k + 10) default, cells.getD (k + 11) default, cells.getD (k + 12) default, cells.getD (k + 13) default, cells.getD (k + 14) default] := by simp [sub, List.range_succ]
theorem subV16 (cells : List V) (k : Nat) : subV cells k 16 = [cells.getD k vdef, cells.getD (k + 1) vdef, cells.getD (k + 2) vdef, cells.getD (k + 3) vdef, cells.getD (k + 4) vdef, cells.getD (k + 5) vdef, cells.getD (k + 6) vdef, cells.getD (k + 7) vdef, cells.getD (k + 8) vdef, cells.getD (k + 9) vdef, cells.getD (k + 10) vdef, cells.getD (k + 11) vdef, cells.getD (k + 12) vdef, cells.getD (k + 13) vdef, cells.getD (k + 14) vdef, cells.getD (k + 15) vdef] := by simp [subV, List.range_succ]
theorem sub16 (cells : List D) (k : Nat) : sub cells k 16 = [cells.getD k default, cells.getD (k + 1) default, cells.getD (k + 2) default, cells.getD (k + 3) default, cells.getD (k + 4) default, cells.getD (k + 5) default, cells.getD (k + 6) default, cells.getD (k + 7) default, cells.getD (k + 8) default, cells.getD (k + 9) default, cells.getD (k + 10) default, cells.getD (k + 11) default, cells.getD (k + 12) default, cells.getD (k + 13) default, cells.getD (k + 14) default, cells.getD (k + 15) default] := by simp [sub, List.range_succ]
attribute [go_sem] subV6 sub6 subV7 sub7 subV8 sub8 subV9 sub9 subV10 sub10 subV11 sub11 subV12 sub12 subV13 sub13 subV14 sub14 subV15 sub15 subV16 sub16
theorem allOne_flatF {α : Type} (f : α → List D) (h : ∀ x, ((f x).map V.d).all oneV = true) (t : List α) : ((t.flatMap f).map V.d).all oneV = true := by
 induction t with
 | nil => rfl
 | cons x l ih => rw [List.flatMap_cons, List.map_append, List.all_append, h, ih]; rfl
theorem FW.toS {ro : Option Nat} {P : Program} {ops : Array Oper} {all l l2 : List Oper} {env : Env} {K : Env → Prop} (T : List (Nat × V)) (O : List Ob) (h : ∀ K' : Env → Prop, K' ⟨env.nt, T, O, env.gs, env.th⟩ → FW P ops l env fun env' => OW ro P all l2 env' K')
  (hK : K ⟨env.nt, T, O, env.gs, env.th⟩) : FW P ops l env fun env' => OW ro P all l2 env' K := h K hK
section
variable {ro : Option Nat} {P : Program} {all : List Oper} {env : Env} {K : Env → Prop}
theorem OW.callGh' {o : Oper} {rest : List Oper} {fo : Operand} {xs : Array Operand} {ts : Array TypeId} {f : FuncId} {caps vs : List V} {ds : List D} {r : V} {gd : Nat × Bool} {g : Bool} (k : Nat)
  (ho : o.op = .call { callee := .value fo, args := xs, argTypes := ts }) (hg : o.guard = some gd) (hgc : guardC (all.map (·.dst)) env.tmps (some gd) = some g)
  (hf : g = true → cloOf (ev (env.under g) fo) = some (f, caps)) (hvs : g = true → xs.toList.map (ev (env.under g)) ++ caps = vs)
  (hds : g = true → vs.map (toD env.objs k) = ds) (hcall : g = true → CallOK P f ds r []) (hok : g = true → ∀ v ∈ vs, okD env.objs k v) (hcl : vs.all noO = true ∨ cleanV r = true) (hd : okDst env o.dst)
  (h : OW ro P all rest (putO env o.dst (.guarded g (r.shift env.objs.length))) K) : OW ro P all (o :: rest) env K :=
 OW.callG ho hg hgc hf (fun hgt => by rw [hvs hgt]; exact ⟨k, hok hgt, by rw [show (env.under g).objs = env.objs from rfl, hds hgt]; exact hcall hgt, hcl.imp id fun h => ⟨h, rfl⟩⟩) hd h
end
end Go.PW
