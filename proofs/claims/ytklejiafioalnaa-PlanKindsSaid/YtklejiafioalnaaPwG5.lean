/-
  Results that are nil or a list of at least one number. For every program.
-/
import Derived.Test.YtklejiafioalnaaPwF3
import Derived.Test.YtklejiafioalnaaPwU
import Derived.Test.YtklejiafioalnaaPwS
import Derived.Test.YtklejiafioalnaaPwF4
set_option linter.all false
set_option linter.all false
namespace Go.PW
open Go.RowKit
def LN (l : List Int) : D := if l.isEmpty = true then .val (.slice none 0 0) else L l
theorem LN_nil : LN [] = .val (.slice none 0 0) := rfl
theorem LN_of {l : List Int} (h : 0 < l.length) : LN l = L l := by
  cases l with
  | nil => simp at h
  | cons x l => rfl
@[go_sem] theorem nz_LN (l : List Int) : nz (LN l) = L l := by
  cases l with
  | nil => rfl
  | cons x l => rw [LN_of (by simp)]; rfl
section
variable {P : Program} {env : Env}
theorem OW.binLN {ro : Option Nat} {all rest : List Oper} {K : Env → Prop} {o : Oper} {t yt e : TypeId} {x y : Operand} {l : List Int} {bo : BinOp} (hbo : bo = .eql ∨ bo = .neq) (ho : o.op = .binOp bo t x y yt) (hg : o.guard = none) (hs : selOf P t = some e)
    (hx : ev env x = .d (LN l)) (hy : ev env y = .d (.val (.slice none 0 0))) (hd : okDst env o.dst) (h : OW ro P all rest (putO env o.dst (vbool (if bo = .eql then l.isEmpty else !l.isEmpty))) K) : OW ro P all (o :: rest) env K := by
  intro B w0 S0 φ a w Q hr hK
  have hxv := hr.ev x
  have hyv := hr.ev y
  rw [hx] at hxv; rw [hy] at hyv
  simp only [RepV] at hxv hyv
  have hc : ∃ ad n cap, a.eval x = .slice ad n cap ∧ ad.isNone = l.isEmpty := by
    cases l with
    | nil =>
      rw [LN_nil] at hxv
      simp only [RepD] at hxv
      exact ⟨none, 0, 0, hxv, rfl⟩
    | cons z l =>
      rw [LN_of (by simp)] at hxv
      simp only [L, RepD] at hxv
      obtain ⟨ad, cap, h1, _, h2 | ⟨b, o, rfl, _⟩⟩ := hxv
      · simp at h2
      · exact ⟨_, _, cap, h1, rfl⟩
  simp only [RepD] at hyv
  obtain ⟨ad, n, cap, hxv, hn⟩ := hc
  unfold wpListIn
  rw [if_pos (wanted_none hg _)]
  have hu := selOf_slice hs
  have hex : (execOp a.eval o).run P w = .ok (.value (.bool (if bo = .eql then l.isEmpty else !l.isEmpty))) w := by
    have hgd : (eqGuard bo t x y (.slice ad n cap) (.slice none 0 0)).run P w = .ok () w := by unfold eqGuard; split <;> simp
    have hb : (binOp bo t (.slice ad n cap) (.slice none 0 0)).run P w = .ok (.bool (if bo = .eql then l.isEmpty else !l.isEmpty)) w := by
      rcases hbo with rfl | rfl
      · simp only [binOp, Sem.run_bind, run_equal_nil w ad n cap hu, Result.andThen_ok, Sem.run_pure, hn, if_true]
      · simp only [binOp, Sem.run_bind, run_equal_nil w ad n cap hu, Result.andThen_ok, Sem.run_pure, hn]
        rfl
    simp only [execOp, ho, hxv, hyv, Sem.run_bind, hgd, hb, Result.andThen_ok, Sem.run_pure]
  exact wp_value hex (h B w0 S0 φ _ w Q (hr.putO o.dst hd _ _ (by simp [vbool, RepV, RepD])) hK)
theorem RetOK.keepD {x : D} : RetOK env (.d x) (.d x) [] := by
  intro B w0 S0 φ a w hr u hu
  refine ⟨fun _ => none, ?_, fun i ob h => (by simp at h), fun i g h => (by simp at h), fun i j g h => (by simp at h)⟩
  simp only [RepV] at hu ⊢
  exact RepD.mono (fun b o y hb hy => ⟨hy, hb.1, fun i hi => (by simp at hi)⟩) x u hu
end
end Go.PW

set_option linter.all false
namespace Go.PW
open Go.RowKit
section
variable {P : Program} {B : Nat} {w0 : World} {S0 : Nat → Prop} {φ : Nat → Option Nat} {env : Env} {a : Act} {w : World}
theorem Rel.frzK (h : Rel B w0 S0 φ env a w) (j : Nat) {ob : Ob} (hob : env.objs[j]? = some ob) (hd : (cellsOf env.objs j).all isD = true) :
    Rel B w0 S0 (φdrop φ j) { env with tmps := env.tmps.map fun x => (x.1, x.2.frz env.objs j), objs := (env.objs.map (frzOb env.objs j)).set j ⟨[], ob.e⟩, gs := (env.gs.1, env.gs.2.map fun x => (x.1.kill j, x.2)) } a w ∧
    Shows w (Imm B S0 (φdrop φ j) env.objs.length) φ env.objs j := by
    have hjl : j < env.objs.length := (List.getElem?_eq_some_iff.1 hob).1
    have hlen : ((env.objs.map (frzOb env.objs j)).set j ⟨[], ob.e⟩).length = env.objs.length := by simp
    have hk : Keeps w (Imm B S0 φ env.objs.length) w (Imm B S0 (φdrop φ j) env.objs.length) := fun b o x hb hc => ⟨hc, hb.1, fun i hi e => hb.2 i hi (φdrop_some e).2⟩
    have hcells : cellsOf env.objs j = ob.cells := by simp [cellsOf, hob]
    have hs : Shows w (Imm B S0 (φdrop φ j) env.objs.length) φ env.objs j := by
      rcases h.objs j ob hob with ⟨h1, h2⟩ | ⟨g, cur, vals, rest, h1, h2, h3, h4⟩
      · exact .inl ⟨h1, by rw [hcells, h2]⟩
      · refine .inr ⟨g, h1, ?_⟩
        rw [hcells]
        have hS : Imm B S0 (φdrop φ j) env.objs.length g := ⟨.inr (h.low j g hjl h1), fun i hi e => (φdrop_some e).1 (h.inj i j g hi hjl (φdrop_some e).2 h1)⟩
        refine repCells_of (w := w) hS (us := vals) (repAll_of asD _ _ h4 fun v hv u hu => ?_) fun k u hu => ?_
        · rw [hcells] at hd
          have := List.all_eq_true.1 hd v hv
          cases v with
          | d x => simp only [asD]; refine nz_rep ?_; simp only [RepV] at hu; exact RepD.mono hk x u hu
          | _ => simp [isD] at this
        · rw [cell_of_heap h2, Nat.zero_add]
          have : cur.toList[k]? = some u := by rw [h3, List.getElem?_append_left (List.getElem?_eq_some_iff.1 hu).1]; exact hu
          simpa using this
    refine ⟨⟨h.below, h.base, h.nodef, h.size, fun t => ?_, ?_, ?_, ?_, ?_⟩, hs⟩
    · rw [hlen]; simp only [get_map_frz]; exact RepV.frz hk hs _ _ (h.tmps t)
    · intro i ob' hi
      rw [hlen]
      by_cases hij : i = j
      · subst hij
        rw [List.getElem?_set_self (by simpa using hjl)] at hi
        cases hi
        exact .inl ⟨by simp [φdrop], rfl⟩
      · rw [List.getElem?_set_ne (Ne.symm hij), List.getElem?_map] at hi
        cases hq : env.objs[i]? with
        | none => simp [hq] at hi
        | some oq =>
          simp only [hq, Option.map_some, Option.some.injEq] at hi
          subst hi
          rcases h.objs i oq hq with ⟨h1, h2⟩ | ⟨g, cur, vals, rest, h1, h2, h3, h4⟩
          · exact .inl ⟨(φdrop_ne φ hij).trans h1, by simp [frzOb, h2]⟩
          · refine .inr ⟨g, cur, vals, rest, (φdrop_ne φ hij).trans h1, h2, h3, ?_⟩
            simp only [frzOb]
            rw [← V.frzs_eq]; exact RepVs.frz hk hs _ _ h4
    · intro i g hi hg; rw [hlen] at hi; exact h.low i g hi (φdrop_some hg).2
    · intro i k g hi hk' h1 h2; rw [hlen] at hi hk'; exact h.inj i k g hi hk' (φdrop_some h1).2 (φdrop_some h2).2
    · rw [hlen]
      refine ⟨h.ghost.1, fun x hx => ?_⟩
      obtain ⟨y, hy, rfl⟩ := List.mem_map.1 hx
      have h1 := h.ghost.2 y hy
      refine ⟨h1.1, RepV.killed (k := j) (w := w) (w' := w) (φ := φ) (φ' := φdrop φ j) (m := y.2.2) (m' := y.2.2) ⟨fun b o x hb hc => ⟨hc, hb.1, fun i hi e => hb.2 i hi (φdrop_some e).2⟩, KeepsOthers.refl _, Nat.le_refl _, fun i hi hij => ⟨φdrop_ne φ hij, fun g hg cur e hc => ⟨cur, hc, rfl⟩⟩⟩ _ _ h1.2⟩

theorem V.frzs_map (objs : List Ob) (j : Nat) (l : List V) : V.frz.frzs objs j l = l.map (V.frz objs j) := V.frzs_eq objs j l
theorem CallM.ofData {f : FuncId} {ds : List D} {x : D} {args : List V} {objs : List Ob} {j k : Nat} {ob : Ob} (hc : CallOK P f ds (.d x) []) (hob : objs[j]? = some ob) (hd : (cellsOf objs j).all isD = true)
    (hno : (args.map (V.frz objs j)).all noO = true) (hok : ∀ v ∈ args.map (V.frz objs j), okD [] k v) (hds : (args.map (V.frz objs j)).map (toD [] k) = ds) :
    CallM P f args objs (.d x) ((objs.map (frzOb objs j)).set j ⟨[], ob.e⟩) [j] := by
  refine ⟨hc.1, fun B w0 S0 φ w us gs hr hu => ?_⟩
  obtain ⟨hF, hs⟩ := hr.frzK j hob hd
  have hk : Keeps w (Imm B S0 φ objs.length) w (Imm B S0 (φdrop φ j) objs.length) := fun b o x hb hc => ⟨hc, hb.1, fun i hi e => hb.2 i hi (φdrop_some e).2⟩
  have hu' := RepVs.frz hk hs args us hu
  rw [V.frzs_map] at hu'
  have hlen : ((objs.map (frzOb objs j)).set j ⟨[], ob.e⟩).length = objs.length := by simp
  have hrep : RepAll w (Imm B S0 (φdrop φ j) objs.length) ds us := by
    rw [← hds]
    exact repAll_of _ _ _ hu' fun v hv u hvu => noO_rep (objs := []) k v u hvu (List.all_eq_true.1 hno v hv) (hok v hv)
  have hg := hF.glob
  simp only [bare, hlen] at hg
  refine (hc.2 w _ us hg hrep).mono ?_
  rintro e w' ⟨v, φr, rfl, hres⟩
  obtain ⟨φ', h1, h2⟩ := hF.called hres (.inl fun b hb => by simpa [bare, hlen] using hb)
  refine ⟨v, φ', rfl, (⟨hres.below⟩ : Grows w w').others, ?_, ?_⟩
  · simpa [Env.addObs, bare, killAll, List.map_map] using h1
  · simpa [Env.addObs, bare, V.shift] using h2
theorem CallM.ofOwn {f : FuncId} {ds : List D} {r : V} {obs : Obs} {args : List V} {objs : List Ob} {k : Nat} (hc : CallOK P f ds r obs) (hno : args.all noO = true) (hok : ∀ v ∈ args, okD [] k v) (hds : args.map (toD [] k) = ds) :
    CallM P f args objs (r.shift objs.length) (((bare objs (0, [])).addObs obs).objs) [] := by
  refine ⟨hc.1, fun B w0 S0 φ w us gs hr hu => ?_⟩
  have hrep : RepAll w (Imm B S0 φ objs.length) ds us := by
    rw [← hds]
    exact repAll_of _ _ _ hu fun v hv u hvu => noO_rep (objs := []) k v u hvu (List.all_eq_true.1 hno v hv) (hok v hv)
  refine (hc.2 w _ us hr.glob hrep).mono ?_
  rintro e w' ⟨v, φr, rfl, hres⟩
  obtain ⟨φ', h1, h2⟩ := hr.called hres (.inl fun b hb => hb)
  have hid : (gs.map fun x => (killAll [] x.1, x.2)) = gs := by
    conv => rhs; rw [← List.map_id gs]
    exact List.map_congr_left fun x _ => rfl
  refine ⟨v, φ', rfl, (⟨hres.below⟩ : Grows w w').others, ?_, ?_⟩
  · rw [hid]; simpa [Env.addObs, bare] using h1
  · simpa [Env.addObs, bare] using h2
theorem CallM.ofOwn' {f : FuncId} {ds : List D} {r r' : V} {obs : Obs} {args : List V} {objs objs' : List Ob} (k : Nat) (hc : CallOK P f ds r obs) (hno : args.all noO = true) (hok : ∀ v ∈ args, okD [] k v) (hds : args.map (toD [] k) = ds)
    (hr : r.shift objs.length = r') (ho : ((bare objs (0, [])).addObs obs).objs = objs') : CallM P f args objs r' objs' [] := by
  subst hr ho; exact CallM.ofOwn hc hno hok hds
theorem CallM.ofData' {f : FuncId} {ds : List D} {x : D} {args : List V} {objs objs' : List Ob} (j k : Nat) {ob : Ob} (hc : CallOK P f ds (.d x) []) (hob : objs[j]? = some ob) (hd : (cellsOf objs j).all isD = true)
    (hno : (args.map (V.frz objs j)).all noO = true) (hok : ∀ v ∈ args.map (V.frz objs j), okD [] k v) (hds : (args.map (V.frz objs j)).map (toD [] k) = ds)
    (ho : (objs.map (frzOb objs j)).set j ⟨[], ob.e⟩ = objs') : CallM P f args objs (.d x) objs' [j] := by
  subst ho; exact CallM.ofData hc hob hd hno hok hds
end
end Go.PW

set_option linter.all false
namespace Go.PW
open Go.RowKit
section
variable {w w' : World} {S S' : Nat → Prop} {φ φ' : Nat → Option Nat} {m m' b : Nat}
mutual
theorem RepV.unkill (hm : m ≤ b) : ∀ (d : V) (v : Value), RepV w S φ m d v → RepV w' S' φ' m' (d.kill b) v → RepV w' S' φ' m' d v
  | .d x, v, _, h => by simpa only [V.kill] using h
  | .own i off n sz, v, h0, h => by
    simp only [RepV] at h0
    simp only [V.kill] at h
    rwa [if_neg (by omega)] at h
  | .ptr i off, v, h0, h => by
    simp only [RepV] at h0
    simp only [V.kill] at h
    rwa [if_neg (by omega)] at h
  | .slf i, v, h0, h => by
    simp only [RepV] at h0
    simp only [V.kill] at h
    rwa [if_neg (by omega)] at h
  | .agg cells, v, h0, h => by
    simp only [V.kill, RepV] at h0 h ⊢
    obtain ⟨vs, e, hr⟩ := h0
    obtain ⟨vs', rfl, hr'⟩ := h
    have : vs' = vs := by simpa using e
    subst this
    exact ⟨vs', rfl, RepVs.unkill hm cells vs' hr hr'⟩
  | .clo f caps, v, h0, h => by
    simp only [V.kill, RepV] at h0 h ⊢
    obtain ⟨vs, e, hr⟩ := h0
    obtain ⟨vs', rfl, hr'⟩ := h
    have : vs' = vs := by simpa using e
    subst this
    exact ⟨vs', rfl, RepVs.unkill hm caps vs' hr hr'⟩
  | .tup ds, v, h0, h => by
    simp only [V.kill, RepV] at h0 h ⊢
    obtain ⟨vs, e, hr⟩ := h0
    obtain ⟨vs', rfl, hr'⟩ := h
    have : vs' = vs := by simpa using e
    subst this
    exact ⟨vs', rfl, RepVs.unkill hm ds vs' hr hr'⟩
  | .guarded c r, v, h0, h => by
    simp only [V.kill, RepV] at h0 h ⊢
    exact ⟨fun hc => RepV.unkill hm r v (h0.1 hc) (h.1 hc), h.2⟩
  | .dead, _, _, _ => by simp [RepV]
  | .emp, v, _, h => by simpa only [V.kill] using h
  | .bnd f x, v, _, h => by simpa only [V.kill] using h
theorem RepVs.unkill (hm : m ≤ b) : ∀ (ds : List V) (vs : List Value), RepVs w S φ m ds vs → RepVs w' S' φ' m' (V.kill.kills b ds) vs → RepVs w' S' φ' m' ds vs
  | [], vs, _, h => by simpa only [V.kill.kills] using h
  | d :: ds, vs, h0, h => by
    simp only [V.kill.kills, RepVs] at h0 h ⊢
    obtain ⟨v, vs1, rfl, hr, ht⟩ := h0
    obtain ⟨v', vs1', e, hr', ht'⟩ := h
    cases e
    exact ⟨v, vs1, rfl, RepV.unkill hm d v hr hr', RepVs.unkill hm ds vs1 ht ht'⟩
end
end
section
variable {P : Program} {ops : Array Oper} {nt g1 : Nat} {os : Nat → List Ob} {κ : Nat → V → V} {cs : List Nat}
theorem FWX.callMk (b : Nat) {env : Env} {K : Env → Prop} {i q : Nat} {o : Oper} {l : List Oper} {fo : Operand} {xs : Array Operand} {ts : Array TypeId} (hq : cs.idxOf? i = some q) (hoi : ops[i]? = some o) (ho : o.op = .call { callee := .value fo, args := xs, argTypes := ts }) (hg : o.guard = none)
    {f : FuncId} {caps : List V} (hf : cloOf (ev env fo) = some (f, caps)) {r : V} (hc : CallM P f (xs.toList.map (ev env) ++ caps) (os q) r (os (q + 1)) [b]) (hle : (os q).length ≤ (os (q + 1)).length) (hκ : ∀ v, κ q v = v.kill b) (hg1 : g1 ≤ b) (hfree : FreeX ops (V.kill b) i (get env.tmps)) (hd : okDst env o.dst)
    (h : FWX P ops g1 os κ cs l (i + 1) (putO (killMap (V.kill b) env) o.dst r) K) : FWX P ops g1 os κ cs (o :: l) i env K := by
  have hk : κ q = V.kill b := funext hκ
  refine ⟨r, ?_, by rw [hq]; simp only [hk]; exact h⟩
  unfold YB
  rw [hq]
  refine ⟨fun j oj hj hne h1 h2 t ht => by rw [hκ]; exact hfree j oj hj hne h1 (fun oi ho' => (Option.some.inj (hoi.symm.trans ho')) ▸ h2) t ht, okDst_D hd, fun ro B w0 S0 φ gs th ff a w Q' next hr hon hdead hgs hnext => ?_⟩
  have hr' : Rel B w0 S0 φ { env with tmps := keep (o.looksAt ops) env.tmps, objs := os q, gs := (0, []), th := (fun _ _ => True, true) } a w := by
    have h1 := hr.noGs.only (o.looksAt ops)
    rw [hon] at h1
    exact RelF.toRel (by simpa [get_keep_eq] using h1)
  have hmem : ∀ y, y = fo ∨ y ∈ xs.toList → y ∈ o.op.operands.toList := by
    intro y hy
    rw [ho]
    simp only [Op.operands, Call.operands, Array.toList_append, List.mem_append]
    rcases hy with rfl | hy
    · exact .inl (by simp)
    · exact .inr hy
  have hev : ∀ y, y ∈ o.op.operands.toList → ev { env with tmps := keep (o.looksAt ops) env.tmps, objs := os q, gs := (0, []), th := (fun _ _ => True, true) } y = ev env y := by
    intro y hy
    have := ev_keep (ops := ops) y hy env
    cases y <;> simpa [ev] using this
  obtain ⟨us, hex, hus⟩ := exec_call hr' ho (by rw [hev fo (hmem fo (.inl rfl))]; exact hf) hc.1
  rw [List.map_congr_left fun y hy => hev y (hmem y (.inr hy))] at hus
  have key := hc.2 B w0 S0 φ w us (((List.range env.nt).map fun t => (ff t, a.tmps.getD t undef, (os q).length)) ++ gs.2) ⟨hr.below, hr.base, Marks.nil _ _ _, Nat.zero_le _, fun t => by simp [bare, get, RepV], hr.objsR, hr.low, hr.inj, Nat.le_refl _, fun x hx => by
    rcases List.mem_append.1 hx with hx | hx
    · obtain ⟨t, _, rfl⟩ := List.mem_map.1 hx
      exact ⟨Nat.le_refl _, hr.tmps t⟩
    · exact ⟨Nat.le_trans (hr.ghost.2 x hx).1 hr.ghost.1, (hr.ghost.2 x hx).2⟩⟩ hus
  unfold wpOpIn
  simp only [hoi]
  rw [if_pos (wanted_none hg _)]
  refine wp_enter hex (key.mono ?_)
  rintro e w' ⟨v, φ', rfl, hko, hm, hrep⟩
  have hrel : RelF B w0 S0 φ' env.nt (os (q + 1)) gs th (fun t => (ff t).kill b) a w' := by
    refine ⟨hm.below, hr.base, hr.nodef.keeps hko, hr.size, fun t => ?_, hm.objs, hm.low, hm.inj, Nat.le_trans hr.ghost.1 hle, fun x hx => ⟨(hr.ghost.2 x hx).1, RepV.unkill (Nat.le_trans (hr.ghost.2 x hx).1 (by rw [hgs]; exact hg1)) _ _ (hr.ghost.2 x hx).2 (hm.ghost.2 (killAll [b] x.1, x.2) (List.mem_map.2 ⟨x, List.mem_append_right _ hx, rfl⟩)).2⟩⟩
    by_cases ht : t < env.nt
    · have := (hm.ghost.2 (killAll [b] (ff t), a.tmps.getD t undef, (os q).length) (List.mem_map.2 ⟨(ff t, a.tmps.getD t undef, (os q).length), List.mem_append_left _ (List.mem_map.2 ⟨t, List.mem_range.2 ht, rfl⟩), rfl⟩)).2
      exact RepV.mono (w := w') (w' := w') ⟨fun b o x hb hc => ⟨hc, hb⟩, KeepsOthers.refl _, hle, fun i hi _ => ⟨rfl, fun g hg cur e hc => ⟨cur, hc, rfl⟩⟩⟩ _ _ this
    · rw [hdead t (by omega)]; simp [V.kill, RepV]
  exact ⟨v, rfl, hnext φ' _ w' (by rw [show (fun t => κ q (ff t)) = fun t => (ff t).kill b from funext fun t => hκ (ff t)]; exact hrel.put o.dst (okDst_D hd) hrep)⟩
end
end Go.PW

set_option linter.all false
namespace Go.PW
open Go.RowKit
def eqB (bo : BinOp) (z : Bool) : Bool := match bo with | .neq => !z | _ => z
@[go_sem] theorem eqB_eql (z : Bool) : eqB .eql z = z := rfl
@[go_sem] theorem eqB_neq (z : Bool) : eqB .neq z = !z := rfl
section
variable {P : Program} {env : Env} {o : Oper}
theorem Yields.cmpN {ops : Array Oper} {bo : BinOp} {t yt e : TypeId} {x y : Operand} {z : Bool} (ho : o.op = .binOp bo t x y yt) (hop : bo = .eql ∨ bo = .neq) (hgc : ∀ j want, o.guard = some (j, want) → guardC (ops.toList.map (·.dst)) env.tmps (some (j, want)) = some true) (hs : selOf P t = some e)
    (hx : ∀ (w : World) (S : Nat → Prop) (φ : Nat → Option Nat) (m : Nat) (v : Value), RepV w S φ m (ev env x) v → ∃ ad n cap, v = .slice ad n cap ∧ ad.isNone = z) (hy : ev env y = .d (.val (.slice none 0 0))) (hd : okDst env o.dst) :
    Yields P ops o env.nt env.objs (get env.tmps) (vbool (eqB bo z)) := by
  refine ⟨okDst_D hd, fun B w0 S0 φ a w hr => ?_⟩
  have hr' : Rel B w0 S0 φ { env with tmps := keep (o.looksAt ops) env.tmps, gs := (0, []), th := (fun _ _ => True, true) } a w := RelF.toRel (by simpa [get_keep_eq] using hr)
  refine .inl ⟨?_, .inl ?_⟩
  · cases hg : o.guard with
    | none => exact wanted_none hg _
    | some gd =>
      obtain ⟨j, want⟩ := gd
      have hops : ops.toList.toArray = ops := by simp
      have hw := guardC_sound (all := ops.toList) hr' hg (by rw [guard_keep hg]; exact hgc j want hg)
      rw [hops] at hw
      exact hw
  · have hmem : ∀ u, u = x ∨ u = y → u ∈ o.op.operands.toList := by
      intro u hu
      rw [ho]
      rcases hu with rfl | rfl <;> simp [Op.operands]
    have e1 : ev { env with tmps := keep (o.looksAt ops) env.tmps, gs := (0, []), th := (fun _ _ => True, true) } x = ev env x := ev_keep x (hmem x (.inl rfl)) env
    have e2 : ev { env with tmps := keep (o.looksAt ops) env.tmps, gs := (0, []), th := (fun _ _ => True, true) } y = ev env y := ev_keep y (hmem y (.inr rfl)) env
    have hxv := hr'.ev x
    have hyv := hr'.ev y
    rw [e1] at hxv
    rw [e2, hy] at hyv
    simp only [RepV, RepD] at hyv
    obtain ⟨ad, n, cap, hxv, hz⟩ := hx _ _ _ _ _ hxv
    subst hz
    have hu := selOf_slice hs
    rcases hop with rfl | rfl
    · have hgd : (eqGuard .eql t x y (.slice ad n cap) (.slice none 0 0)).run P w = .ok () w := by unfold eqGuard; split <;> simp
      have hb : (binOp .eql t (.slice ad n cap) (.slice none 0 0)).run P w = .ok (.bool ad.isNone) w := by
        simp only [binOp, Sem.run_bind, run_equal_nil w ad n cap hu, Result.andThen_ok, Sem.run_pure]
      have hex : (execOp a.eval o).run P w = .ok (.value (.bool ad.isNone)) w := by
        simp only [execOp, ho, hxv, hyv, Sem.run_bind, hgd, hb, Result.andThen_ok, Sem.run_pure]
      exact ⟨_, w, hex, Grows.refl w, by simp [vbool, eqB, RepV, RepD]⟩
    · have hgd : (eqGuard .neq t x y (.slice ad n cap) (.slice none 0 0)).run P w = .ok () w := by unfold eqGuard; split <;> simp
      have hb : (binOp .neq t (.slice ad n cap) (.slice none 0 0)).run P w = .ok (.bool (!ad.isNone)) w := by
        simp only [binOp, Sem.run_bind, run_equal_nil w ad n cap hu, Result.andThen_ok, Sem.run_pure]
      have hex : (execOp a.eval o).run P w = .ok (.value (.bool (!ad.isNone))) w := by
        simp only [execOp, ho, hxv, hyv, Sem.run_bind, hgd, hb, Result.andThen_ok, Sem.run_pure]
      exact ⟨_, w, hex, Grows.refl w, by simp [vbool, eqB, RepV, RepD]⟩
@[go_sem] theorem lenF_LN (t : TypeId) (l : List Int) : lenF P t (.d (LN l)) = lenF P t (.d (L l)) := by
  cases l with
  | nil =>
    rw [LN_nil]
    simp only [L, lenF, List.map_nil, List.length_nil]
    cases selOf P t <;> rfl
  | cons x l => rw [LN_of (by simp)]
end
end Go.PW
