/-
  A strings.Builder of the call's own: laid, checked, read as a string. For every program.
-/
import Derived.Test.YtikelkndldaejaaPwZ
import Derived.Lib.Builder
import Derived.Lib.UnsafeStr
import Derived.Lib.ConvBytes
set_option linter.all false
namespace Go.PW
open Go.RowKit

section
variable {B : Nat} {w0 : World} {S0 : Nat → Prop} {φ : Nat → Option Nat} {env : Env} {a : Act} {w w' : World} {P : Program} {ro : Option Nat} {all rest : List Oper} {K : Env → Prop}

/-- A cell that may hold the block's own address. -/
theorem Rel.toSlf (h : Rel B w0 S0 φ env a w) {i g : Nat} {cs : List V} {e : TypeId} {cur : Array Value} (hi : env.objs[i]? = some ⟨.d (.val (.pointer none)) :: cs, e⟩) (hg : φ i = some g) (hh : w.heap[g]? = some (.cells cur e (0, 0))) (hs : cur.size = 2) :
    Rel B w0 S0 φ { env with objs := env.objs.set i ⟨.slf i :: cs, e⟩ } a w := by
  have hil := (List.getElem?_eq_some_iff.1 hi).1
  have hlen : (env.objs.set i ⟨.slf i :: cs, e⟩).length = env.objs.length := by simp
  refine ⟨h.below, h.base, h.nodef, h.size, fun t => by rw [hlen]; exact h.tmps t, fun j ob' hj => ?_, by rw [hlen]; exact h.low, by rw [hlen]; exact h.inj, by rw [hlen]; exact h.ghost⟩
  rw [hlen]
  by_cases hij : i = j
  · subst hij
    rw [List.getElem?_set_self hil] at hj
    cases hj
    rcases h.objs i _ hi with ⟨h1, _⟩ | ⟨g', cur', vals, rest, h1, h2, h3, h4⟩
    · rw [hg] at h1; cases h1
    · rw [hg] at h1; cases h1
      simp only [RepVs] at h4
      obtain ⟨v, vs', rfl, hv, hr⟩ := h4
      simp only [RepV, RepD] at hv
      refine .inr ⟨g, cur', v :: vs', rest, hg, h2, h3, ?_⟩
      simp only [RepVs]
      refine ⟨v, vs', rfl, ?_, hr⟩
      simp only [RepV]
      exact ⟨hil, g, cur, e, hg, hh, hs, .inl hv⟩
  · rw [List.getElem?_set_ne hij] at hj
    exact h.objs j ob' hj

/-- A builder is laid. -/
theorem OW.allocB {o : Oper} {e : TypeId} {b : Nat} (ho : o.op = .alloc e) (hg : o.guard = none) (ht : tyOf P e = some (2, b, [.pointer none, .slice none 0 0])) (hd : okDst env o.dst)
    (h : OW ro P all rest (newOb env ⟨[.slf env.objs.length, .d (.val (.slice none 0 0))], e⟩ o.dst (.ptr env.objs.length 0)) K) : OW ro P all (o :: rest) env K := by
  intro B w0 S0 φ a w Q hr hK
  unfold wpListIn
  rw [if_pos (wanted_none hg _)]
  obtain ⟨i, zv, hi, hs, hb, hz, hzz⟩ := tyOf_spec ht
  have hrun : (execOp a.eval o).run P w = .ok (.value (.pointer (some ⟨w.heap.size, 0, none⟩))) (w.alloc (.cells zv.cells e)) := by
    simp [execOp, ho, Instr.alloc, zeroValue, typeInfo, hi, hz, newVar, newRow]
  have hsz : zv.cells.size = 2 := by rw [← Array.length_toList, hzz]; rfl
  refine wp_value hrun ?_
  have hgr := hr.grow (Grows.alloc w (.cells zv.cells e)) w.heap.size (Nat.le_refl _) ⟨[.d (.val (.pointer none)), .d (.val (.slice none 0 0))], e⟩ zv.cells [.pointer none, .slice none 0 0] [] (heap_alloc_new w _) (by simp [hzz]) (by simp [RepVs, RepV, RepD])
  have h2 := hgr.toSlf (i := env.objs.length) (cs := [.d (.val (.slice none 0 0))]) (e := e) (by simp) (φnew_at _ _ _) (heap_alloc_new w _) hsz
  have hset : (env.objs ++ [(⟨[.d (.val (.pointer none)), .d (.val (.slice none 0 0))], e⟩ : Ob)]).set env.objs.length ⟨[.slf env.objs.length, .d (.val (.slice none 0 0))], e⟩ = env.objs ++ [⟨[.slf env.objs.length, .d (.val (.slice none 0 0))], e⟩] := by
    rw [List.set_append_right _ _ (Nat.le_refl _), Nat.sub_self]; rfl
  have h3 : Rel B w0 S0 (φnew φ env.objs.length (some w.heap.size)) { env with objs := env.objs ++ [⟨[.slf env.objs.length, .d (.val (.slice none 0 0))], e⟩] } a (w.alloc (.cells zv.cells e)) := by
    have := h2; simp only [hset] at this; exact this
  refine h B w0 S0 _ _ _ Q (h3.putO o.dst (by revert hd; cases o.dst <;> exact fun h => h) (.ptr env.objs.length 0) _ ?_) hK
  simp only [RepV]
  exact ⟨by simp, w.heap.size, φnew_at _ _ _, rfl⟩

/-- What a builder's copy check comes to. -/
structure CopyOK (P : Program) (f : FuncId) (T : TypeId) : Prop where
  enter : ∀ args w, (callFunc f args).run P w = .ok (.enter f args) w
  used : ∀ (b : Nat) (w : World), w.cell? ⟨b, 0, none⟩ = some (.pointer (some ⟨b, 0, none⟩)) → Calls P f #[.pointer (some ⟨b, 0, none⟩)] w fun e w' => e = .returned (.tuple #[]) ∧ w' = w
  fresh : ∀ (b : Nat) (w : World), w.cell? ⟨b, 0, none⟩ = some (.pointer none) → w.shape? b = some (T, 2) → w.frozen? ⟨b, 0, none⟩ = false →
    Calls P f #[.pointer (some ⟨b, 0, none⟩)] w fun e w' => e = .returned (.tuple #[]) ∧ w' = w.setCell ⟨b, 0, none⟩ (.pointer (some ⟨b, 0, none⟩))

theorem setCell_row {w : World} {g : Nat} {cur : Array Value} {e : TypeId} {fr : Nat × Nat} (hh : w.heap[g]? = some (.cells cur e fr)) (v : Value) : w.setCell ⟨g, 0, none⟩ v = w.setRow g (cur.setIfInBounds 0 v) := by
  unfold World.setCell World.setRow
  congr 1
  refine Array.ext (by simp) fun k h1 h2 => ?_
  rw [Array.getElem_modify, Array.getElem_modify]
  by_cases hk : g = k
  · subst hk
    obtain ⟨hlt, heq⟩ := Array.getElem?_eq_some_iff.1 hh
    simp [heq]
  · simp [hk]

/-- The copy check: the builder is as it was. -/
theorem OW.copyCheck {o : Oper} {fo x : Operand} {ts : Array TypeId} {f : FuncId} {T : TypeId} {i : Nat} {cs : List V} (H : CopyOK P f T) (ho : o.op = .call { callee := .value fo, args := #[x], argTypes := ts }) (hg : o.guard = none)
    (hf : cloOf (ev env fo) = some (f, [])) (hx : ev env x = .ptr i 0) (hi : env.objs[i]? = some ⟨.slf i :: cs, T⟩) (hd : okDst env o.dst) (h : OW ro P all rest (putO env o.dst (.d (.tup []))) K) : OW ro P all (o :: rest) env K := by
  intro B w0 S0 φ a w Q hr hK
  unfold wpListIn
  rw [if_pos (wanted_none hg _)]
  obtain ⟨us, hex, hus⟩ := exec_call hr ho hf H.enter
  simp only [Array.toList, List.map_cons, List.map_nil, List.append_nil, hx, RepVs, RepV] at hus
  obtain ⟨u, us', rfl, ⟨hil, g, hgi, rfl⟩, rfl⟩ := hus
  have fin : ∀ w2, Rel B w0 S0 φ env a w2 → wpListIn (Fd ro) 1 P all.toArray Q rest (a.put o.dst (.tuple #[])) w2 := fun w2 h2 => by
    refine h B w0 S0 φ _ _ Q (h2.putO o.dst hd _ _ ?_) hK
    simp only [RepV, RepD, RepAll]
    exact ⟨[], rfl, rfl⟩
  refine wp_enter hex ?_
  rcases hr.objs i _ hi with ⟨h1, _⟩ | ⟨g', cur, vals, rest', h1, h2, h3, h4⟩
  · rw [hgi] at h1; cases h1
  rw [hgi] at h1; cases h1
  simp only [RepVs] at h4
  obtain ⟨v, vs', rfl, hv, hr4⟩ := h4
  simp only [RepV] at hv
  obtain ⟨_, g2, cur2, e2, hg2, hh2, hs2, hv⟩ := hv
  rw [hgi] at hg2; cases hg2
  rw [h2] at hh2; cases hh2
  have hcell : w.cell? ⟨g, 0, none⟩ = some v := by
    have h0 : cur[0]? = some v := by rw [← Array.getElem?_toList, h3]; rfl
    rw [World.cell?_of_block (w := w) (w' := w) rfl]
    simp [World.cell?, h2, h0]
  rcases hv with rfl | rfl
  · refine (H.fresh g w hcell ?_ ?_).mono ?_
    · simp [World.shape?, h2, hs2]
    · simp [World.frozen?, h2]
    rintro e w' ⟨rfl, rfl⟩
    refine ⟨_, rfl, fin _ ?_⟩
    have hstore := hr.store (i := i) (g := g) (off := 0) (es := [.slf i]) (us := [.pointer (some ⟨g, 0, none⟩)]) hi hgi h2 h3 (by simp only [RepVs, RepV]; exact ⟨_, _, rfl, ⟨hil, g, cur, T, hgi, h2, hs2, .inl rfl⟩, hr4⟩) (by simp only [RepVs, RepV]; exact ⟨_, [], rfl, ⟨hil, g, cur, T, hgi, h2, hs2, .inr rfl⟩, rfl⟩) (by simp)
    have hc : (cur.toList.take 0 ++ [Value.pointer (some ⟨g, 0, none⟩)] ++ cur.toList.drop (0 + [Value.pointer (some ⟨g, 0, none⟩)].length)).toArray = cur.setIfInBounds 0 (.pointer (some ⟨g, 0, none⟩)) := by
      apply Array.toList_inj.1
      rw [h3]
      simp [h3]
    have hset : env.objs.set i { cells := setMany (V.slf i :: cs) 0 [V.slf i], e := T } = env.objs := by
      simp only [setMany, List.set_cons_zero]
      obtain ⟨hlt, heq⟩ := List.getElem?_eq_some_iff.1 hi
      rw [← heq]; exact List.set_getElem_self hlt
    rw [hc, ← setCell_row h2] at hstore
    simp only [hset] at hstore
    exact hstore
  · refine (H.used g w hcell).mono ?_
    rintro e w' ⟨rfl, rfl⟩
    exact ⟨_, rfl, fin _ hr⟩

/-! ### The bytes of a string -/
theorem grows_bytes (w : World) (e : TypeId) (s : ByteArray) : Grows w (Lib.bytesWorld w e s) := by
  refine ⟨rfl, rfl, rfl, by rw [Lib.bytesWorld_size]; omega, fun k hk => Lib.bytesWorld_at_old w e s k hk⟩
/-- A string's bytes, as data. -/
theorem OW.bytes {o : Oper} {src dst e : TypeId} {u : TypeDesc} {x : Operand} {s : ByteArray} (ho : o.op = .convert src dst x) (hg : o.guard = none) (hs : P.underlying src = some u) (hd : P.underlying dst = some (.slice e)) (he : P.underlying e = some (.int .u8))
    (hx : ev env x = .d (Sx s)) (hdst : okDst env o.dst) (h : OW ro P all rest (putO env o.dst (.d (.list (bytesL s).length ((bytesL s).map fun x => .val (.int .u8 x))))) K) : OW ro P all (o :: rest) env K := by
  intro B w0 S0 φ a w Q hr hK
  unfold wpListIn
  rw [if_pos (wanted_none hg _)]
  have hxv : a.eval x = .string s := by
    have := hr.ev x
    rw [hx] at this
    simpa only [RepV, Sx, RepD] using this
  have hrun : (execOp a.eval o).run P w = .ok (.value (.slice (some ⟨w.heap.size, 0, none⟩) s.size (grownCap w s.size 0 e))) (Lib.bytesWorld w e s) := by
    simp [execOp, ho, hxv, Lib.run_convert_string_bytes w src dst e s hs hd he]
  have hgr := grows_bytes w e s
  refine wp_value hrun (h B w0 S0 φ _ _ Q ((hr.grow0 hgr).putO o.dst hdst _ _ ?_) hK)
  simp only [RepV, RepD]
  refine ⟨some ⟨w.heap.size, 0, none⟩, grownCap w s.size 0 e, by rw [bytesL_length], by rw [bytesL_length]; exact grownCap_ge _ _ _ _, .inr ⟨w.heap.size, 0, rfl, ?_⟩⟩
  refine RepCells.intro _ _ _ fun k hk => ?_
  have hk' : k < s.size := by rw [List.length_map, bytesL_length] at hk; exact hk
  refine ⟨⟨.inr hr.baseW, fun i hi e' => ?_⟩, _, by rw [Nat.zero_add]; exact Lib.bytesWorld_cell w e s k hk', ?_⟩
  · have := hr.live_lt (i := i) hi e'; omega
  · have : ((bytesL s).map fun x => D.val (.int .u8 x)).getD k default = D.val (.int .u8 ((bytesL s).getD k 0)) := by
      rw [List.length_map] at hk
      simp [List.getD_eq_getElem?_getD, hk]
    rw [this]
    simp only [RepD]
    have h' : k < s.data.size := hk'
    rw [bytesL_getD s hk']
    simp [Array.getD_eq_getD_getElem?, List.getD_eq_getElem?_getD, h']

/-! ### Its string -/
def V.flatV : V → V
  | .d (.val x) => .d (.val x)
  | _ => .dead
/-- What is left of a state if nothing is known any more of memory that the call has laid. -/
def Env.flat (env : Env) : Env := { env with tmps := env.tmps.map fun x => (x.1, x.2.flatV), objs := [], gs := (0, []) }
theorem get_flat (l : List (Nat × V)) (t : Nat) : get (l.map fun x => (x.1, x.2.flatV)) t = (get l t).flatV := by
  induction l with
  | nil => simp [get, V.flatV]
  | cons x l ih =>
    obtain ⟨s, v⟩ := x
    simp only [List.map_cons, get]
    split
    · rfl
    · exact ih
theorem Rel.flat (h : Rel B w0 S0 φ env a w) (hth : env.th = (fun _ _ => True, false)) (hb : Below B w w') : Rel B w0 S0 φ env.flat a w' := by
  refine ⟨h.below.trans hb, h.base, ?_, h.size, fun t => ?_, fun i ob hi => by simp [Env.flat] at hi, fun i g hi => by simp [Env.flat] at hi, fun i j g hi => by simp [Env.flat] at hi, Nat.le_refl _, fun x hx => by simp [Env.flat] at hx⟩
  · have h0 := h.nodef.1
    rw [hth] at h0
    show Marks B a.defers env.th w'
    rw [hth, h0 rfl]
    exact Marks.nil B false w'
  · show RepV w' _ _ _ (get (env.tmps.map fun x => (x.1, x.2.flatV)) t) _
    rw [get_flat]
    have ht := h.tmps t
    generalize get env.tmps t = v at *
    unfold V.flatV
    split
    · simpa only [RepV, RepD] using ht
    · simp [RepV]
theorem byteA_cells {l : List Int} (h : okByte l) : Lib.byteCells (byteA l) = l.map fun x => Value.int .u8 x := by
  unfold Lib.byteCells byteA
  rw [List.map_map]
  refine List.map_congr_left fun x hx => ?_
  obtain ⟨h1, h2⟩ := h x hx
  simp only [Function.comp_apply]
  congr 1
  rw [UInt8.toNat_ofNat', Nat.mod_eq_of_lt (by omega)]
  omega
structure StringOK (P : Program) (f : FuncId) (T E : TypeId) : Prop where
  enter : ∀ args w, (callFunc f args).run P w = .ok (.enter f args) w
  str : ∀ (B b : Nat) (l : List UInt8) (w : World), Lib.IsBuilder T E B b (Lib.byteCells l) w → B ≤ w.heap.size → Calls P f #[.pointer (some ⟨b, 0, none⟩)] w fun e w' => e = .returned (.string ⟨l.toArray⟩) ∧ Below B w w'

/-- What a builder holds, read as a string: of the call's memory nothing is known behind it. -/
theorem OW.bldString {o : Oper} {fo x : Operand} {ts : Array TypeId} {f : FuncId} {T E : TypeId} {i : Nat} {c : V} (H : StringOK P f T E) (ho : o.op = .call { callee := .value fo, args := #[x], argTypes := ts }) (hg : o.guard = none)
    (hf : cloOf (ev env fo) = some (f, [])) (hx : ev env x = .ptr i 0) (hi : env.objs[i]? = some ⟨[.slf i, c], T⟩) (L : List Int) (hL : okByte L)
    (hc : (c = .d (.val (.slice none 0 0)) ∧ L = []) ∨ ∃ j, c = .own j 0 L.length 1 ∧ i ≠ j ∧ env.objs[j]? = some ⟨(L.map fun x => D.val (.int .u8 x)).map .d, E⟩)
    (hth : env.th = (fun _ _ => True, false)) (hd : okDst env o.dst) (h : OW ro P all rest (putO env.flat o.dst (.d (Sx (bytesB L)))) K) : OW ro P all (o :: rest) env K := by
  intro B w0 S0 φ a w Q hr hK
  unfold wpListIn
  rw [if_pos (wanted_none hg _)]
  obtain ⟨us, hex, hus⟩ := exec_call hr ho hf H.enter
  simp only [Array.toList, List.map_cons, List.map_nil, List.append_nil, hx, RepVs, RepV] at hus
  obtain ⟨u, us', rfl, ⟨hil, g, hgi, rfl⟩, rfl⟩ := hus
  refine wp_enter hex ?_
  rcases hr.objs i _ hi with ⟨h1, _⟩ | ⟨g', cur, vals, rest', h1, h2, h3, h4⟩
  · rw [hgi] at h1; cases h1
  rw [hgi] at h1; cases h1
  simp only [RepVs] at h4
  obtain ⟨p, vs', rfl, hv, v, vs2, rfl, hcv, rfl⟩ := h4
  simp only [RepV] at hv
  obtain ⟨_, g2, cur2, e2, hg2, hh2, hs2, hv⟩ := hv
  rw [hgi] at hg2; cases hg2
  rw [h2] at hh2; cases hh2
  have hcur : cur = #[p, v] := by
    apply Array.toList_inj.1
    have hl := congrArg List.length h3
    simp only [Array.length_toList, hs2, List.cons_append, List.nil_append, List.length_cons] at hl
    have : rest' = [] := List.eq_nil_of_length_eq_zero (by omega)
    rw [h3, this]; rfl
  subst hcur
  have hrow : w.ownsRow B E 1 v (Lib.byteCells (byteA L)).length (Lib.byteCells (byteA L)) ∧ v.ownBlock ≠ some g := by
    rw [byteA_cells hL]
    have hnil : ∀ v : Value, v = .slice none 0 0 → L = [] → w.ownsRow B E 1 v (L.map fun x => Value.int .u8 x).length (L.map fun x => Value.int .u8 x) ∧ v.ownBlock ≠ some g := by
      rintro v rfl rfl
      exact ⟨World.ownsRow_nil _ _ _ _, by simp [Value.ownBlock]⟩
    rcases hc with ⟨rfl, hL0⟩ | ⟨j, rfl, hij, hj⟩
    · simp only [RepV, RepD] at hcv
      exact hnil v hcv hL0
    · simp only [RepV] at hcv
      obtain ⟨hjl, ⟨a', rfl, hn, ha⟩ | ⟨g3, cap, cur3, e3, hg3, rfl, hn, hm, hh3, hsz⟩⟩ := hcv
      · have := ha trivial
        subst this
        exact hnil _ rfl (List.eq_nil_of_length_eq_zero hn)
      · refine ⟨⟨by simp, .inr ⟨g3, cap, cur3, by simp, hr.low j g3 hjl hg3, ?_, by simpa using hn, hm, by omega, ?_⟩⟩, ?_⟩
        · rcases hr.objs j _ hj with ⟨h0, _⟩ | ⟨g4, cur4, vals4, rest4, k1, k2, k3, k4⟩
          · rw [hg3] at h0; cases h0
          · rw [hg3] at k1; cases k1
            rw [hh3] at k2; cases k2
            exact hh3
        · rcases hr.objs j _ hj with ⟨h0, _⟩ | ⟨g4, cur4, vals4, rest4, k1, k2, k3, k4⟩
          · rw [hg3] at h0; cases h0
          · rw [hg3] at k1; cases k1
            rw [hh3] at k2; cases k2
            have hvals : vals4 = L.map fun x => Value.int .u8 x := by
              clear k3
              revert k4
              generalize L = M
              induction M generalizing vals4 with
              | nil => intro k4; simpa [RepVs] using k4
              | cons y M ih =>
                intro k4
                simp only [List.map_cons, RepVs, RepV, RepD] at k4
                obtain ⟨v5, vs5, rfl, rfl, k5⟩ := k4
                rw [List.map_cons, ih _ k5]
            rw [k3, hvals]
            simp
        · simp only [Value.ownBlock, ne_eq, Option.some.injEq]
          rintro rfl
          exact hij (hr.inj i j _ hil hjl hgi hg3)
  have hbld : Lib.IsBuilder T E B g (Lib.byteCells (byteA L)) w := by
    have hBg := hr.low i g hil hgi
    rcases hv with rfl | rfl
    · exact .inl ⟨hBg, v, h2, hrow⟩
    · exact .inr ⟨hBg, v, h2, hrow⟩
  refine (H.str B g (byteA L) w hbld hr.baseW).mono ?_
  rintro e w' ⟨rfl, hb⟩
  refine ⟨_, rfl, h B w0 S0 φ _ _ Q ((hr.flat hth hb).putO o.dst (by revert hd; cases o.dst <;> exact fun h => h) _ _ ?_) hK⟩
  simp only [RepV, Sx, RepD]
  rfl
end
attribute [go_sem] Env.flat V.flatV
end Go.PW
