/-
 That the machine does what 'opF' says: operations that leave memory alone. For every program.
-/
import Derived.Test.YtklejiafioalnaaPwC
set_option linter.all false
namespace Go.PW
open Go.RowKit

section
variable {P : Program} {w : World} {S : Nat → Prop} {φ : Nat → Option Nat} {m : Nat}

theorem tyOf_spec' {t : TypeId} {s b : Nat} {z : List Value} (h : tyOf P t = some (s, b, z)) : ∃ i zv, P.info? t = some i ∧ i.size = s ∧ i.bytes = b ∧ i.zero = some zv ∧ zv.cells.toList = z ∧ zv.cells.size = s := by
 unfold tyOf at h
 cases hi : P.info? t with
 | none => simp [hi] at h
 | some i =>
  cases hz : i.zero with
  | none => simp [hi, hz] at h
  | some zv =>
   simp [hi, hz] at h
   obtain ⟨h0, h1, h2, h3⟩ := h
   exact ⟨i, zv, rfl, h1, h2, hz, by rw [h3], h0.trans h1⟩
theorem tyOf_spec {t : TypeId} {s b : Nat} {z : List Value} (h : tyOf P t = some (s, b, z)) : ∃ i zv, P.info? t = some i ∧ i.size = s ∧ i.bytes = b ∧ i.zero = some zv ∧ zv.cells.toList = z := by
 obtain ⟨i, zv, h1, h2, h3, h4, h5, _⟩ := tyOf_spec' h
 exact ⟨i, zv, h1, h2, h3, h4, h5⟩

theorem run_sizeOf {t : TypeId} {s b : Nat} {z : List Value} (h : tyOf P t = some (s, b, z)) (w : World) : (sizeOf t).run P w = .ok s w := by
 obtain ⟨i, zv, hi, hs, _⟩ := tyOf_spec h
 simp [sizeOf, typeInfo, hi, hs]

theorem run_isAgg {t : TypeId} {b : Bool} (h : aggOf P t = some b) (w : World) : (isAgg t).run P w = .ok b w := by
 unfold aggOf at h
 cases hu : P.underlying t with
 | none => simp [hu] at h
 | some d =>
  unfold isAgg
  rw [Sem.run_bind, run_underlying hu w]
  cases d <;> simp_all

theorem selOf_spec {t e : TypeId} (h : selOf P t = some e) : P.underlying t = some (.slice e) := by
 unfold selOf at h; split at h <;> simp_all
theorem arrOf_spec {t e : TypeId} {n : Nat} (h : arrOf P t = some (n, e)) : P.underlying t = some (.array n e) := by
 unfold arrOf at h; split at h <;> simp_all
theorem kindOf_spec {t : TypeId} {k : IntKind} (h : kindOf P t = some k) : P.underlying t = some (.int k) := by
 unfold kindOf at h; split at h <;> simp_all
theorem isBoolT_spec {t : TypeId} (h : isBoolT P t = true) : P.underlying t = some .bool := by
 unfold isBoolT at h; split at h <;> simp_all
theorem isStrT_spec {t : TypeId} (h : isStrT P t = true) : P.underlying t = some .string := by
 unfold isStrT at h; split at h <;> simp_all
theorem fldOff_spec {s f off : Nat} {ft : TypeId} (h : fldOff P s f = some (off, ft)) : ∃ fs fd, P.underlying s = some (.struct fs) ∧ fs[f]? = some fd ∧ fd.offset = off ∧ fd.type = ft := by
 unfold fldOff at h
 split at h
 ·
  rename_i fs hu
  cases hf : fs[f]? with
  | none => simp [hf] at h
  | some fd => simp [hf] at h; exact ⟨fs, fd, hu, hf, h.1, h.2⟩
 · cases h

theorem RepV.repD {x : D} {v : Value} (h : RepV w S φ m (.d x) v) : RepD w S x v := by simpa [RepV] using h
theorem RepD.repV {x : D} {v : Value} (h : RepD w S x v) : RepV w S φ m (.d x) v := by simpa [RepV] using h

theorem RepAll.repVs : ∀ {ds : List D} {vs : List Value}, RepAll w S ds vs → RepVs w S φ m (ds.map .d) vs
 | [], vs, h => by simpa [RepAll, RepVs] using h
 | d :: ds, vs, h => by
  simp only [RepAll] at h
  obtain ⟨v, vs', rfl, hr, ht⟩ := h
  simp only [List.map_cons, RepVs]
  exact ⟨v, vs', rfl, hr.repV, ht.repVs⟩

theorem RepVs.repAll : ∀ {ds : List D} {vs : List Value}, RepVs w S φ m (ds.map .d) vs → RepAll w S ds vs
 | [], vs, h => by simpa [RepAll, RepVs] using h
 | d :: ds, vs, h => by
  simp only [List.map_cons, RepVs] at h
  obtain ⟨v, vs', rfl, hr, ht⟩ := h
  simp only [RepAll]
  exact ⟨v, vs', rfl, hr.repD, ht.repAll⟩

theorem RepAll.vals : ∀ (xs : List Value), RepAll w S (xs.map .val) xs
 | [] => by simp [RepAll]
 | x :: xs => by simp only [List.map_cons, RepAll]; exact ⟨x, xs, rfl, by simp [RepD], RepAll.vals xs⟩

theorem RepVs.vals (xs : List Value) : RepVs w S φ m (xs.map fun x => .d (.val x)) xs := by
 have := (RepAll.vals (w := w) (S := S) xs).repVs (φ := φ) (m := m)
 simpa [List.map_map, Function.comp_def] using this

theorem constV_rep (v : Value) : RepV w S φ m (constV v) v := by
 unfold constV
 split
 ·
  rename_i cs
  simp only [RepV]
  exact ⟨cs.toList, by simp, RepVs.vals _⟩
 · simp [RepV, RepD]

theorem RepCells.vals : ∀ (ds : List D) (b o : Nat), RepCells w S ds b o → ∃ vs, RepAll w S ds vs ∧ ∀ j v, vs[j]? = some v → w.cell? ⟨b, o + j, none⟩ = some v
 | [], b, o, _ => ⟨[], by simp [RepAll], by simp⟩
 | d :: ds, b, o, h => by
  simp only [RepCells] at h
  obtain ⟨⟨_, v, hc, hr⟩, ht⟩ := h
  obtain ⟨vs, h1, h2⟩ := RepCells.vals ds b (o + 1) ht
  refine ⟨v :: vs, by simp only [RepAll]; exact ⟨v, vs, rfl, hr, h1⟩, fun j u hu => ?_⟩
  cases j with
  | zero => simp at hu; subst hu; simpa using hc
  | succ j => have := h2 j u (by simpa using hu); rwa [show o + (j + 1) = o + 1 + j by omega]

theorem subV_length (cells : List V) (k n : Nat) : (subV cells k n).length = n := by simp [subV]
theorem subV_getD (cells : List V) (k n j : Nat) (h : j < n) (x : V) : (subV cells k n).getD j x = cells.getD (k + j) vdef := by
 simp [subV, List.getD_eq_getElem?_getD, h]

theorem getD_in {α : Type} {l : List α} {k : Nat} (h : k < l.length) (x y : α) : l.getD k x = l.getD k y := by
 simp [List.getD_eq_getElem?_getD, h]

theorem RepVs.sub {ds : List V} {vs : List Value} (h : RepVs w S φ m ds vs) (k n : Nat) (hk : k + n ≤ ds.length) : RepVs w S φ m (subV ds k n) ((vs.drop k).take n) := by
 have hl := RepVs.length ds vs h
 refine RepVs.intro _ _ (by simp [subV_length]; omega) fun j hj v hv => ?_
 rw [subV_length] at hj
 rw [subV_getD _ _ _ _ hj, getD_in (by omega) vdef .dead]
 obtain ⟨u, hu, hr⟩ := RepVs.get ds vs h (k + j) (by omega)
 have : v = u := by
  rw [List.getElem?_take, if_pos hj, List.getElem?_drop] at hv
  rw [hv] at hu; exact Option.some.inj hu
 subst this
 exact hr

theorem RepVs.one {ds : List V} {vs : List Value} (h : RepVs w S φ m ds vs) (k : Nat) (hk : k < ds.length) : ∃ v, vs[k]? = some v ∧ RepV w S φ m (ds.getD k vdef) v := by
 obtain ⟨v, hv, hr⟩ := RepVs.get ds vs h k hk
 exact ⟨v, hv, by rw [getD_in hk vdef .dead]; exact hr⟩

theorem cell_of_heap {g j : Nat} {cur : Array Value} {e : TypeId} {fr : Nat × Nat} (hg : w.heap[g]? = some (.cells cur e fr)) : w.cell? ⟨g, j, none⟩ = cur[j]? := by
 simp [World.cell?, hg]

theorem RepCells.drop : ∀ (ds : List D) (b o k : Nat), RepCells w S ds b o → RepCells w S (ds.drop k) b (o + k)
 | ds, b, o, 0, h => by simpa using h
 | [], b, o, k + 1, _ => by simp [RepCells]
 | d :: ds, b, o, k + 1, h => by
  simp only [RepCells] at h
  have := RepCells.drop ds b (o + 1) k h.2
  simpa [show o + 1 + k = o + (k + 1) by omega] using this

theorem RepCells.take : ∀ (ds : List D) (b o k : Nat), RepCells w S ds b o → RepCells w S (ds.take k) b o
 | ds, b, o, 0, h => by simp [RepCells]
 | [], b, o, k + 1, _ => by simp [RepCells]
 | d :: ds, b, o, k + 1, h => by
  simp only [List.take_succ_cons, RepCells] at h ⊢
  exact ⟨h.1, RepCells.take ds b (o + 1) k h.2⟩

theorem strip_rep {g : Bool} {v : V} {x : Value} (hg : g = true) (h : RepV w S φ m v x) : RepV w S φ m (strip g v) x := by
 subst hg
 cases v with
 | guarded c r =>
  simp only [strip]
  split
  ·
   rename_i hc
   simp only [RepV] at h
   exact h.1 (by simpa using hc)
  · simp [RepV]
 | _ => simpa [strip] using h

theorem oneV_cell {v : V} {x : Value} (h : RepV w S φ m v x) (h1 : oneV v = true) : x.oneCell' = true := by
 cases v with
 | d y =>
  simp only [RepV] at h
  cases y with
  | val z => simp only [RepD] at h; subst h; simpa [oneV] using h1
  | list n cells => simp only [RepD] at h; obtain ⟨a, cap, rfl, _⟩ := h; rfl
  | ref cells => simp only [RepD] at h; obtain ⟨b, o, rfl, _⟩ := h; rfl
  | clo f caps => simp only [RepD] at h; obtain ⟨vs, rfl, _⟩ := h; rfl
  | agg ds => simp [oneV] at h1
  | tup ds => simp [oneV] at h1
 | own i off n sz => simp only [RepV] at h; obtain ⟨_, ⟨a, rfl, _, _⟩ | ⟨g, cap, cur, e, _, rfl, _⟩⟩ := h <;> rfl
 | ptr i off => simp only [RepV] at h; obtain ⟨_, g, _, rfl⟩ := h; rfl
 | clo f caps => simp only [RepV] at h; obtain ⟨vs, rfl, _⟩ := h; rfl
 | agg cells => simp [oneV] at h1
 | tup cells => simp [oneV] at h1
 | guarded c r => simp [oneV] at h1
 | dead => simp [oneV] at h1
 | slf i => simp [oneV] at h1
 | emp => simp [oneV] at h1

theorem cells_of_one {x : Value} (h : x.oneCell' = true) : x.cells = #[x] := by
 cases x <;> simp_all [Value.oneCell', Value.cells]

theorem RepVs.allOne : ∀ {ds : List V} {vs : List Value}, RepVs w S φ m ds vs → ds.all oneV = true → ∀ u ∈ vs, u.oneCell' = true
 | [], vs, h, _ => by simp only [RepVs] at h; simp [h]
 | d :: ds, vs, h, h1 => by
  simp only [RepVs] at h
  obtain ⟨v, vs', rfl, hr, ht⟩ := h
  simp only [List.all_cons, Bool.and_eq_true] at h1
  intro u hu
  rcases List.mem_cons.1 hu with rfl | hu
  · exact oneV_cell hr h1.1
  · exact RepVs.allOne ht h1.2 u hu

theorem cellsV_rep {v : V} {x : Value} (h : RepV w S φ m v x) (h1 : (cellsV v).all oneV = true) : RepVs w S φ m (cellsV v) x.cells.toList ∧ ∀ u ∈ x.cells.toList, u.oneCell' = true := by
 have gen : ∀ y : V, cellsV y = [y] → RepV w S φ m y x → (cellsV y).all oneV = true → RepVs w S φ m (cellsV y) x.cells.toList := by
  intro y hy hr ha
  rw [hy] at ha ⊢
  rw [cells_of_one (oneV_cell hr (by simpa using ha))]
  simp only [RepVs]
  exact ⟨x, [], rfl, hr, rfl⟩
 have key : RepVs w S φ m (cellsV v) x.cells.toList := by
  cases v with
  | agg vs => simp only [RepV] at h; obtain ⟨us, rfl, hr⟩ := h; simpa [cellsV, Value.cells] using hr
  | d y =>
   cases y with
   | agg ds => simp only [RepV, RepD] at h; obtain ⟨us, rfl, hr⟩ := h; simpa [cellsV, Value.cells] using hr.repVs
   | _ => exact gen _ rfl h h1
  | _ => exact gen _ rfl h h1
 exact ⟨key, key.allOne h1⟩

theorem loadF_sound {objs : List Ob} (ho : ∀ i ob, objs[i]? = some ob → ObRep w S φ m i ob) {t : TypeId} {x : V} {v : Value} (hx : RepV w S φ m x v) (hc : (loadF P objs t x).1) :
  ∃ u, (Instr.loadAt t v).run P w = .ok u w ∧ RepV w S φ m (loadF P objs t x).2 u := by
 have hcells : ∀ i g, φ i = some g → 0 < (cellsOf objs i).length → ∃ cur e vals rest, w.heap[g]? = some (.cells cur e (0, 0)) ∧ cur.toList = vals ++ rest ∧ RepVs w S φ m (cellsOf objs i) vals := by
  intro i g hg hl
  unfold cellsOf at hl ⊢
  cases hi : objs[i]? with
  | none => simp [hi] at hl
  | some ob =>
   simp only [hi] at hl ⊢
   rcases ho i ob hi with ⟨_, he⟩ | ⟨g', cur, vals, rest, hg', hh, hcur, hv⟩
   · simp [he] at hl
   · rw [hg] at hg'; cases hg'; exact ⟨cur, _, vals, rest, hh, hcur, hv⟩
 unfold loadF at hc ⊢
 split at hc
 ·
  -- a whole aggregate, read alone
  rename_i s b z cells ht ha
  simp only [RepV, RepD] at hx
  obtain ⟨bl, o, rfl, hr⟩ := hx
  obtain ⟨vs, h1, h2⟩ := RepCells.vals _ _ _ (hr.sub 0 s (by simpa using hc))
  have hlen : vs.length = s := by have := RepAll.length _ _ h1; simpa using this
  have hl := run_loadCells_list (P := P) w ⟨bl, o, none⟩ vs (fun j v hv => by rw [Addr.add_lit]; have := h2 j v hv; simpa using this)
  rw [hlen] at hl
  refine ⟨.agg vs.toArray, ?_, ?_⟩
  · simp [Instr.loadAt, Instr.sureAddr, loadVar, run_isAgg ha, run_sizeOf ht, hl]
  · simp only [RepV]; exact ⟨vs, rfl, h1.repVs⟩
 ·
  rename_i s b z i off ht ha
  simp only [RepV] at hx
  obtain ⟨hi, g, hg, rfl⟩ := hx
  by_cases h0 : 0 < (cellsOf objs i).length
  ·
   obtain ⟨cur, e, vals, rest, hh, hcur, hv⟩ := hcells i g hg h0
   have hvl := RepVs.length _ _ hv
   have hsub := hv.sub off s hc
   have hlen : ((vals.drop off).take s).length = s := by simp; omega
   have hl := run_loadCells_list (P := P) w ⟨g, off, none⟩ ((vals.drop off).take s) (fun j v hjv => by
    rw [Addr.add_lit, cell_of_heap hh, ← Array.getElem?_toList, hcur]
    have hj : j < s := by
     have := (List.getElem?_eq_some_iff.1 hjv).1
     omega
    rw [List.getElem?_take, if_pos hj, List.getElem?_drop] at hjv
    rw [List.getElem?_append_left (by omega)]
    exact hjv)
   rw [hlen] at hl
   refine ⟨.agg ((vals.drop off).take s).toArray, ?_, ?_⟩
   · simp [Instr.loadAt, Instr.sureAddr, loadVar, run_isAgg ha, run_sizeOf ht, hl]
   · simp only [RepV]; exact ⟨_, rfl, hsub⟩
  ·
   have hs0 : s = 0 := by simp only at hc; omega
   subst hs0
   refine ⟨.agg #[], ?_, ?_⟩
   · simp [Instr.loadAt, Instr.sureAddr, loadVar, run_isAgg ha, run_sizeOf ht, loadCells, loadCellsFrom]
   · simp [RepV, subV, RepVs]
 ·
  rename_i x' cells ht ha
  simp only [RepV, RepD] at hx
  obtain ⟨bl, o, rfl, hr⟩ := hx
  obtain ⟨_, u, hu, hru⟩ := RepCells.get cells bl o hr 0 hc
  refine ⟨u, ?_, by simpa [RepV] using hru⟩
  have hu' : w.cell? ⟨bl, o, none⟩ = some u := by simpa using hu
  simp [Instr.loadAt, Instr.sureAddr, loadVar, run_isAgg ha, hu']
 ·
  rename_i x' i off ht ha
  simp only [RepV] at hx
  obtain ⟨hi, g, hg, rfl⟩ := hx
  obtain ⟨cur, e, vals, rest, hh, hcur, hv⟩ := hcells i g hg (by simp only at hc; omega)
  have hvl := RepVs.length _ _ hv
  obtain ⟨u, hu, hru⟩ := hv.one off hc
  refine ⟨u, ?_, hru⟩
  have hu' : w.cell? ⟨g, off, none⟩ = some u := by
   rw [cell_of_heap hh, ← Array.getElem?_toList, hcur, List.getElem?_append_left (by simp only at hc; omega)]; exact hu
  simp [Instr.loadAt, Instr.sureAddr, loadVar, run_isAgg ha, hu']
 · exact hc.elim

theorem fieldAddrF_sound {s f : Nat} {x : V} {v : Value} (hx : RepV w S φ m x v) (hc : (fieldAddrF P s x f).1) :
  ∃ u, (Instr.fieldAt s v f).run P w = .ok u w ∧ RepV w S φ m (fieldAddrF P s x f).2 u := by
 unfold fieldAddrF at hc ⊢
 split at hc
 ·
  rename_i off ft hf
  obtain ⟨fs, fd, hu, hfd, ho, hft⟩ := fldOff_spec hf
  subst hft
  split at hc
  ·
   rename_i sz b z i o ht
   simp only [RepV] at hx
   obtain ⟨hi, g, hg, rfl⟩ := hx
   refine ⟨.pointer (some ⟨g, o + off, none⟩), ?_, by simp only [RepV]; exact ⟨hi, g, hg, rfl⟩⟩
   have hz : ¬ sz = 0 := hc
   simp [Instr.fieldAt, run_underlying hu, hfd, Instr.sureAddr, fieldPlace, run_sizeOf ht, hz, ho, Addr.add_lit]
  ·
   rename_i sz b z cells ht
   simp only [RepV, RepD] at hx
   obtain ⟨b, o, rfl, hr⟩ := hx
   refine ⟨.pointer (some ⟨b, o + off, none⟩), ?_, by simp only [RepV, RepD]; exact ⟨b, o + off, rfl, RepCells.drop _ _ _ _ hr⟩⟩
   have hz : ¬ sz = 0 := hc
   simp [Instr.fieldAt, run_underlying hu, hfd, Instr.sureAddr, fieldPlace, run_sizeOf ht, hz, ho, Addr.add_lit]
  · exact hc.elim
 · exact hc.elim

theorem indexAddrF_sound {t : TypeId} {x ix : V} {v u : Value} (hx : RepV w S φ m x v) (hi : RepV w S φ m ix u) (hc : (indexAddrF P t x ix).1) :
  ∃ y, (Instr.indexAt t v u).run P w = .ok y w ∧ RepV w S φ m (indexAddrF P t x ix).2 y := by
 unfold indexAddrF at hc ⊢
 split at hc
 ·
  rename_i kk k
  simp only [RepV, RepD] at hi
  subst hi
  split at hc
  ·
   rename_i e _ he
   have hu := selOf_spec he
   split at hc
   ·
    rename_i s b z i off n sz ht
    obtain ⟨h0, h1, rfl⟩ := hc
    simp only [RepV] at hx
    obtain ⟨hi, ⟨a, rfl, rfl, _⟩ | ⟨g, cap, cur, el, hg, rfl, _⟩⟩ := hx
    · simp at h1; omega
    ·
     refine ⟨.pointer (some ⟨g, off + k.toNat * sz, none⟩), ?_, by simp only [RepV]; exact ⟨hi, g, hg, rfl⟩⟩
     simp [Instr.indexAt, asIntOf, run_underlying hu, h0, h1, run_sizeOf ht, Addr.add_lit]
   ·
    rename_i s b z n cells ht
    obtain ⟨h0, h1, h2, h3⟩ := hc
    simp only [RepV, RepD] at hx
    obtain ⟨a, cap, rfl, _, hcl⟩ := hx
    rcases hcl with rfl | ⟨bl, o, rfl, hr⟩
    · simp at h2; omega
    ·
     refine ⟨.pointer (some ⟨bl, o + k.toNat * s, none⟩), ?_, ?_⟩
     · simp [Instr.indexAt, asIntOf, run_underlying hu, h0, h1, run_sizeOf ht, Addr.add_lit]
     · simp only [RepV, RepD]; exact ⟨bl, _, rfl, hr.sub _ _ h2⟩
   · exact hc.elim
  ·
   rename_i n e he ha
   have hu := arrOf_spec ha
   split at hc
   ·
    rename_i s b z i off ht
    obtain ⟨h0, h1⟩ := hc
    simp only [RepV] at hx
    obtain ⟨hi, g, hg, rfl⟩ := hx
    refine ⟨.pointer (some ⟨g, off + k.toNat * s, none⟩), ?_, by simp only [RepV]; exact ⟨hi, g, hg, rfl⟩⟩
    simp [Instr.indexAt, asIntOf, run_underlying hu, Instr.sureAddr, h0, h1, run_sizeOf ht, Addr.add_lit]
   ·
    rename_i s b z cells ht
    obtain ⟨h0, h1, h2, h3⟩ := hc
    simp only [RepV, RepD] at hx
    obtain ⟨bl, o, rfl, hr⟩ := hx
    refine ⟨.pointer (some ⟨bl, o + k.toNat * s, none⟩), ?_, ?_⟩
    · simp [Instr.indexAt, asIntOf, run_underlying hu, Instr.sureAddr, h0, h1, run_sizeOf ht, Addr.add_lit]
    · simp only [RepV, RepD]; exact ⟨bl, _, rfl, hr.sub _ _ h2⟩
   · exact hc.elim
  · exact hc.elim
 · exact hc.elim
end
end Go.PW
