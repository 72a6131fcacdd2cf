import Derived.Test.YtbndgoeahoadlaaGreatDoorPwI
set_option linter.all false
namespace Go.PW
open Go.RowKit

section
variable {P : Program} {B : Nat} {w0 : World} {S0 : Nat → Prop} {φ : Nat → Option Nat} {env : Env} {a : Act} {w : World}

def Comes1 (P : Program) (o : Oper) (env env' : Env) : Prop :=
 ∀ B w0 S0 φ a w, Rel B w0 S0 φ env a w → ∀ (K : Act → World → Prop) (Q : Exit → Act → World → Prop), (∀ φ' a' w', Rel B w0 S0 φ' env' a' w' → K a' w') → ∀ ro : Option Nat, o.wpIn (Fd ro) 1 P a w K Q

theorem F8 {o : Oper} {r : Prop × V} (hc : (pureF env o.dst r).1)
  (h : r.1 → ∀ B w0 S0 φ a w, Rel B w0 S0 φ env a w → ∃ v, (execOp a.eval o).run P w = .ok (.value v) w ∧ RepV w (Imm B S0 φ env.objs.length) φ env.objs.length r.2 v) :
  Comes1 P o env (pureF env o.dst r).2 := by
 intro B w0 S0 φ a w hr K Q hK ro
 obtain ⟨v, hv, hrep⟩ := h hc.1 B w0 S0 φ a w hr
 exact B3 hv (hK _ _ _ (hr.putO o.dst hc.2 r.2 v hrep))

theorem setMany_foldl {α : Type} (cs : List α) (off : Nat) (us : List α) : (us.zipIdx.foldl (fun cs (x : α × Nat) => cs.set (off + x.2) x.1) cs) = setMany cs off us := by
 have key : ∀ (us : List α) (cs : List α) (k : Nat), ((us.zipIdx k).foldl (fun cs (x : α × Nat) => cs.set (off + x.2) x.1) cs) = setMany cs (off + k) us := by
  intro us
  induction us with
  | nil => intro cs k; rfl
  | cons u us ih => intro cs k; simp only [List.zipIdx_cons, List.foldl_cons, setMany]; rw [ih]; rfl
 simpa using key us cs 0

theorem fill_step (cells : Array Value) (off : Nat) (us : Array Value) :
  (us.zipIdx.foldl (fun (cs : Array Value) (x : Value × Nat) => cs.setIfInBounds (off + x.2) x.1) cells) = (setMany cells.toList off us.toList).toArray := by
 rw [← setMany_foldl]
 rw [← Array.foldl_toList, Array.toList_zipIdx]
 have key : ∀ (l : List (Value × Nat)) (cells : Array Value), (l.foldl (fun (cs : Array Value) (x : Value × Nat) => cs.setIfInBounds (off + x.2) x.1) cells) = (l.foldl (fun (cs : List Value) (x : Value × Nat) => cs.set (off + x.2) x.1) cells.toList).toArray := by
  intro l
  induction l with
  | nil => intro cells; simp
  | cons x l ih => intro cells; simp only [List.foldl_cons]; rw [ih]; simp
 rw [key]

theorem fill_rep {S : Nat → Prop} {m : Nat} (place : Nat → Option (Nat × Nat)) : ∀ (parts : List (Nat × V)) (vals : List (Nat × Value)) (cells : List V) (cs : Array Value),
  parts.map (·.1) = vals.map (·.1) → RepVs w S φ m (parts.map (·.2)) (vals.map (·.2)) → RepVs w S φ m cells cs.toList → (fillV place cells parts).1 →
  ∃ cs', Instr.fill place cs vals = some cs' ∧ RepVs w S φ m (fillV place cells parts).2 cs'.toList ∧ cs'.size = cs.size
 | [], vals, cells, cs, hk, _, hr, _ => by
  cases vals with
  | nil => exact ⟨cs, rfl, by simpa [fillV] using hr, rfl⟩
  | cons x vals => simp at hk
 | (i, v) :: parts, [], cells, cs, hk, _, _, _ => by simp at hk
 | (i, v) :: parts, (j, u) :: vals, cells, cs, hk, hv, hr, hc => by
  simp only [List.map_cons, List.cons.injEq] at hk
  obtain ⟨rfl, hk⟩ := hk
  simp only [List.map_cons, RepVs] at hv
  obtain ⟨u', vs', he, hvu, hvs⟩ := hv
  simp only [List.cons.injEq] at he
  obtain ⟨rfl, rfl⟩ := he
  unfold fillV at hc ⊢
  unfold Instr.fill
  cases hp : place i with
  | none => simp [hp] at hc
  | some x =>
   obtain ⟨off, size⟩ := x
   simp only [hp] at hc ⊢
   obtain ⟨⟨hc1, hc2, h1⟩, hc3⟩ := hc
   obtain ⟨hcv, _⟩ := cellsV_rep hvu h1
   have hl1 := RepVs.length _ _ hcv
   have hl2 := RepVs.length _ _ hr
   simp only [Array.length_toList] at hl1 hl2
   have e1 : ¬ (u.cells.size ≠ size || off + u.cells.size > cs.size) = true := by
    simp; omega
   rw [if_neg e1]
   have hstep := fill_step cs off u.cells
   obtain ⟨cs', h3, h4, h5⟩ := fill_rep place parts vals (setMany cells off (r6 v)) (setMany cs.toList off u.cells.toList).toArray hk hvs (by simpa using hr.setMany off hcv) hc3
   refine ⟨cs', ?_, h4, by rw [h5]; simp [setMany_length]⟩
   rw [← h3, ← hstep]

theorem repVs_dead {S : Nat → Prop} {m : Nat} : ∀ (vs : List Value), RepVs w S φ m (List.replicate vs.length .dead) vs
 | [] => by simp [RepVs]
 | v :: vs => by simp only [List.length_cons, List.replicate_succ, RepVs]; exact ⟨v, vs, rfl, by simp [RepV], repVs_dead vs⟩

theorem repVs_replicate {S : Nat → Prop} {m : Nat} {d : V} {v : Value} (h : RepV w S φ m d v) : ∀ n, RepVs w S φ m (List.replicate n d) (List.replicate n v)
 | 0 => by simp [RepVs]
 | n + 1 => by simp only [List.replicate_succ, RepVs]; exact ⟨v, _, rfl, h, repVs_replicate h n⟩

theorem map_pair (parts : List (Nat × Operand)) (f : Operand → V) (g : Operand → Value) :
  (parts.map fun x => (x.1, f x.2)).map (·.1) = (parts.map fun x => (x.1, g x.2)).map (·.1) := by simp [List.map_map, Function.comp_def]

theorem partsRep (h : Rel B w0 S0 φ env a w) (parts : List (Nat × Operand)) :
  RepVs w (Imm B S0 φ env.objs.length) φ env.objs.length ((parts.map fun x => (x.1, ev env x.2)).map (·.2)) ((parts.map fun x => (x.1, a.eval x.2)).map (·.2)) := by
 have := h.evs (parts.map (·.2))
 simpa [List.map_map, Function.comp_def] using this

theorem evalPlus {dst : Option Tmp} {op : Op} {ty : TypeId} {pos : String} {af : Array Edge} {gu : Option (Nat × Bool)} (hd : l5 env dst) (ob : Ob) (r : V) {v : Value} {vals rest : List Value} {cur : Array Value}
  (h : Rel B w0 S0 φ env a w) (hc : cur.toList = vals ++ rest) (hv : RepVs w (Imm B S0 φ env.objs.length) φ env.objs.length ob.cells vals)
  (hrun : (execOp a.eval ⟨dst, op, ty, pos, af, gu⟩).run P w = .ok (.value v) (w.alloc (.cells cur ob.e)))
  (hr : RepV (w.alloc (.cells cur ob.e)) (Imm B S0 (φnew φ env.objs.length (some w.heap.size)) (env.objs.length + 1)) (φnew φ env.objs.length (some w.heap.size)) (env.objs.length + 1) r v)
  (K : Act → World → Prop) (Q : Exit → Act → World → Prop) (hK : ∀ φ' a' w', Rel B w0 S0 φ' (newOb env ob dst r) a' w' → K a' w') :
  ∀ ro : Option Nat, (⟨dst, op, ty, pos, af, gu⟩ : Oper).wpIn (Fd ro) 1 P a w K Q := by
 intro ro
 refine B3 hrun (hK (φnew φ env.objs.length (some w.heap.size)) _ _ ?_)
 have hg := h.grow (Grows.alloc w (.cells cur ob.e)) w.heap.size (Nat.le_refl _) ob cur vals rest (heap_alloc_new w _) hc hv
 have hlen : ({ env with objs := env.objs ++ [ob] } : Env).objs.length = env.objs.length + 1 := by simp
 exact hg.putO dst (by cases dst <;> exact hd) r v (by rw [hlen]; exact hr)

theorem storeF_sound {o : Oper} {t : TypeId} {p v : Operand} (ho : o.op = .store t p v) (hc : (B7 P env o.dst t (ev env p) (ev env v)).1) : Comes1 P o env (B7 P env o.dst t (ev env p) (ev env v)).2 := by
 unfold B7 at hc ⊢
 split at hc
 ·
  rename_i i off s b z hp ht
  split at hc
  ·
   rename_i ob hi
   obtain ⟨hd, hl, hle, h1⟩ := hc
   intro B w0 S0 φ a w hr K Q hK ro
   have hpv := hr.ev p
   rw [hp] at hpv
   simp only [RepV] at hpv
   obtain ⟨hil, g, hg, hpv⟩ := hpv
   obtain ⟨hcv, hone⟩ := cellsV_rep (hr.ev v) h1
   have hlen := RepVs.length _ _ hcv
   rcases hr.objs i ob hi with ⟨h0, _⟩ | ⟨g', cur, vals, rest, hg', hh, hcur, hv⟩
   · rw [hg] at h0; cases h0
   rw [hg] at hg'; cases hg'
   have hvl := RepVs.length _ _ hv
   have hcl : cur.size = vals.length + rest.length := by have := congrArg List.length hcur; simpa using this
   have hst := run_storeCells_at P g off ob.e (a.eval v).cells.toList 0 cur w hh (by omega) hone
   simp only [Nat.add_zero] at hst
   have hsz : (a.eval v).cells.size = s := by rw [← hl, ← hlen]; simp
   refine wp_skipped (w' := w.setRow g (cur.toList.take off ++ (a.eval v).cells.toList ++ cur.toList.drop (off + (a.eval v).cells.toList.length)).toArray) ?_ (hK φ _ _ ?_)
   · simp [execOp, ho, hpv, Instr.storeAt, Instr.sureAddr, storeVar, l6 ht, hsz, hst]
   ·
    rw [hd]
    exact hr.store hi hg hh hcur hv hcv (by omega)
  · exact hc.elim
 · exact hc.elim

theorem boxF_sound {o : Oper} {e : TypeId} {x : Operand} (ho : o.op = .box e x) (hc : (boxF env o.dst e (ev env x)).1) : Comes1 P o env (boxF env o.dst e (ev env x)).2 := by
 obtain ⟨dst, op, ty, pos, af, gu⟩ := o
 simp only at ho
 subst ho
 intro B w0 S0 φ a w hr K Q hK
 obtain ⟨h1, hd⟩ := hc
 obtain ⟨hcv, _⟩ := cellsV_rep (hr.ev x) h1
 refine evalPlus (v := .pointer (some ⟨w.heap.size, 0, none⟩)) (cur := (a.eval x).cells) (rest := []) hd ⟨r6 (ev env x), e⟩ _ hr (by simp) hcv ?_ ?_ K Q hK
 · simp [execOp, Instr.box, newVar, newRow]
 · simp only [RepV]; exact ⟨by omega, w.heap.size, w6 _ _ _, rfl⟩

theorem allocF_sound {o : Oper} {e : TypeId} (ho : o.op = .alloc e) (hc : (allocF P env o.dst e).1) : Comes1 P o env (allocF P env o.dst e).2 := by
 obtain ⟨dst, op, ty, pos, af, gu⟩ := o
 simp only at ho
 subst ho
 unfold allocF at hc ⊢
 split at hc
 ·
  rename_i s b z ht
  obtain ⟨i, zv, hi, hs, hb, hz, hzz⟩ := tyOf_spec ht
  intro B w0 S0 φ a w hr K Q hK
  refine evalPlus (v := .pointer (some ⟨w.heap.size, 0, none⟩)) (cur := zv.cells) (vals := z) (rest := []) hc ⟨z.map fun x => .d (.val x), e⟩ _ hr (by simp [hzz]) (RepVs.vals _) ?_ ?_ K Q hK
  · simp [execOp, Instr.alloc, zeroValue, typeInfo, hi, hz, newVar, newRow]
  · simp only [RepV]; exact ⟨by omega, w.heap.size, w6 _ _ _, rfl⟩
 · exact hc.elim

theorem buildF_sound {o : Oper} {t : TypeId} {parts : Array (Nat × Operand)} (ho : o.op = .build t parts) (hr : Rel B w0 S0 φ env a w) (hc : (buildF P t (parts.toList.map fun x => (x.1, ev env x.2))).1) :
  ∃ v, (execOp a.eval o).run P w = .ok (.value v) w ∧ RepV w (Imm B S0 φ env.objs.length) φ env.objs.length (buildF P t (parts.toList.map fun x => (x.1, ev env x.2))).2 v := by
 have hpr := partsRep hr parts.toList
 have hpk := map_pair parts.toList (ev env) a.eval
 have hpl : (parts.map fun (x : Nat × Operand) => (x.1, a.eval x.2)).toList = parts.toList.map fun x => (x.1, a.eval x.2) := by simp
 unfold buildF at hc ⊢
 split at hc
 ·
  rename_i s b z ht
  obtain ⟨i, zv, hi, hs, hb, hz, hzz⟩ := tyOf_spec ht
  split at hc
  ·
   rename_i pl hpl'
   unfold E7 at hpl'
   split at hpl'
   ·
    rename_i fs hu
    obtain ⟨cs', h1, h2, h3⟩ := fill_rep (w := w) (fun i => pl[i]?) _ _ (z.map fun x => .d (.val x)) zv.cells hpk hpr (by rw [hzz]; exact RepVs.vals _) hc
    refine ⟨.agg cs', ?_, by simp only [RepV]; exact ⟨cs'.toList, by simp, h2⟩⟩
    simp [execOp, ho, Instr.build, zeroValue, typeInfo, hi, hz, run_underlying hu, Array.mapM_eq_mapM_toList, run_places w _ _ hpl', h1]
   · cases hpl'
  ·
   rename_i n e hn ha
   have hu := arrOf_spec ha
   split at hc
   ·
    rename_i sz b' z' he
    obtain ⟨cs', h1, h2, h3⟩ := fill_rep (w := w) (fun i => some (i * sz, sz)) _ _ (z.map fun x => .d (.val x)) zv.cells hpk hpr (by rw [hzz]; exact RepVs.vals _) hc
    refine ⟨.agg cs', ?_, by simp only [RepV]; exact ⟨cs'.toList, by simp, h2⟩⟩
    simp [execOp, ho, Instr.build, zeroValue, typeInfo, hi, hz, run_underlying hu, l6 he, h1]
   · exact hc.elim
  · exact hc.elim
 · exact hc.elim

theorem buildSlice_exec {o : Oper} {t : TypeId} {n : Nat} {parts : Array (Nat × Operand)} (ho : o.op = .buildSlice t n parts) {B : Nat} {w0 : World} {S0 : Nat → Prop} {φ : Nat → Option Nat} {env : Env} {a : Act} {w : World} (hr : Rel B w0 S0 φ env a w) {e : TypeId} {s b : Nat} {z : List Value} (he : C4 P t = some e) (ht : F3 P e = some (s, b, z))
  (hfill : (fillV (fun i => some (i * s, s)) (List.replicate (n * s) V.dead) (parts.toList.map fun x => (x.1, ev env x.2))).1) (hle : n * s ≤ 16777216) :
  ∃ cs', (execOp a.eval o).run P w = .ok (.value (.slice (some ⟨w.heap.size, 0, none⟩) n n)) (w.alloc (.cells cs' e)) ∧
      RepVs w (Imm B S0 φ env.objs.length) φ env.objs.length (fillV (fun i => some (i * s, s)) (List.replicate (n * s) V.dead) (parts.toList.map fun x => (x.1, ev env x.2))).2 cs'.toList ∧ cs'.size = n * s := by
 obtain ⟨dst, op, ty, pos, af, gu⟩ := o
 simp only at ho
 subst ho
 have hu := o7 he
 obtain ⟨i, zv, hi, hs, hb, hz, hzz⟩ := tyOf_spec ht
 have hpr := partsRep hr parts.toList
 have hpk := map_pair parts.toList (ev env) a.eval
 have hmain : ∀ zs : Array Value, (if n * s = 0 then pure #[] else do pure (← zeroValue e).cells : Sem (Array Value)).run P w = .ok zs w →
   ∃ cs', (execOp a.eval ⟨dst, .buildSlice t n parts, ty, pos, af, gu⟩).run P w = .ok (.value (.slice (some ⟨w.heap.size, 0, none⟩) n n)) (w.alloc (.cells cs' e)) ∧
    RepVs w (Imm B S0 φ env.objs.length) φ env.objs.length (fillV (fun i => some (i * s, s)) (List.replicate (n * s) V.dead) (parts.toList.map fun x => (x.1, ev env x.2))).2 cs'.toList ∧ cs'.size = n * s := by
  intro zs hzs
  obtain ⟨zf, hzf⟩ : ∃ zf : Nat → Value, zf = fun x => zs[x % zs.size]! := ⟨_, rfl⟩
  have hlen : ((Array.range (n * s)).map zf).toList.length = n * s := by simp
  obtain ⟨cs', h1, h2, h3⟩ := fill_rep (w := w) (S := Imm B S0 φ env.objs.length) (φ := φ) (m := env.objs.length) (fun i => some (i * s, s)) _ _ (List.replicate (n * s) .dead) ((Array.range (n * s)).map zf) hpk hpr
   (by have := repVs_dead (w := w) (S := Imm B S0 φ env.objs.length) (φ := φ) (m := env.objs.length) ((Array.range (n * s)).map zf).toList; rwa [hlen] at this) hfill
  refine ⟨cs', ?_, h2, by rw [h3]; simp⟩
  have hb2 : (Instr.buildSlice t n (parts.map fun (x : Nat × Operand) => (x.1, a.eval x.2))).run P w = .ok (.slice (some ⟨w.heap.size, 0, none⟩) n n) (w.alloc (.cells cs' e)) := by
   unfold Instr.buildSlice
   simp only [Sem.run_bind, run_underlying hu, Result.andThen_ok, l6 ht, show ¬ n * s > 2 ^ 24 by omega, if_false]
   by_cases h0 : n * s = 0
   ·
    simp only [h0, if_true, Sem.run_pure, Result.ok.injEq, and_true] at hzs
    subst hzs
    simp only [if_pos h0, Sem.run_bind, Sem.run_pure, Result.andThen_ok, Array.toList_map]
    rw [← hzf, h1]
    simp [newRow]
   ·
    have hzr : (zeroValue e).run P w = .ok zv w := by simp [zeroValue, typeInfo, hi, hz]
    simp only [if_neg h0, Sem.run_bind, hzr, Result.andThen_ok, Sem.run_pure, Result.ok.injEq, and_true] at hzs
    subst hzs
    simp only [if_neg h0, Sem.run_bind, hzr, Sem.run_pure, Result.andThen_ok, Array.toList_map]
    rw [← hzf, h1]
    simp [newRow]
  simp [execOp, hb2]
 by_cases h0 : n * s = 0
 · exact hmain #[] (by simp [h0])
 · exact hmain zv.cells (by simp [h0, zeroValue, typeInfo, hi, hz])

theorem buildSliceF_sound {o : Oper} {t : TypeId} {n : Nat} {parts : Array (Nat × Operand)} (ho : o.op = .buildSlice t n parts) (hc : (o5 P env o.dst t n (parts.toList.map fun x => (x.1, ev env x.2))).1) :
  Comes1 P o env (o5 P env o.dst t n (parts.toList.map fun x => (x.1, ev env x.2))).2 := by
 obtain ⟨dst, op, ty, pos, af, gu⟩ := o
 simp only at ho
 subst ho
 unfold o5 at hc ⊢
 split at hc
 ·
  rename_i e he
  have hu := o7 he
  split at hc
  ·
   rename_i s b z ht
   obtain ⟨⟨hfill, hle, hn⟩, hd⟩ := hc
   obtain ⟨i, zv, hi, hs, hb, hz, hzz⟩ := tyOf_spec ht
   intro B w0 S0 φ a w hr K Q hK
   have hpr := partsRep hr parts.toList
   have hpk := map_pair parts.toList (ev env) a.eval
   have hmain : ∀ zs : Array Value, (if n * s = 0 then pure #[] else do pure (← zeroValue e).cells : Sem (Array Value)).run P w = .ok zs w →
     ∃ cs', (execOp a.eval ⟨dst, .buildSlice t n parts, ty, pos, af, gu⟩).run P w = .ok (.value (.slice (some ⟨w.heap.size, 0, none⟩) n n)) (w.alloc (.cells cs' e)) ∧
      RepVs w (Imm B S0 φ env.objs.length) φ env.objs.length (fillV (fun i => some (i * s, s)) (List.replicate (n * s) V.dead) (parts.toList.map fun x => (x.1, ev env x.2))).2 cs'.toList ∧ cs'.size = n * s := by
    intro zs hzs
    obtain ⟨zf, hzf⟩ : ∃ zf : Nat → Value, zf = fun x => zs[x % zs.size]! := ⟨_, rfl⟩
    have hlen : ((Array.range (n * s)).map zf).toList.length = n * s := by simp
    obtain ⟨cs', h1, h2, h3⟩ := fill_rep (w := w) (S := Imm B S0 φ env.objs.length) (φ := φ) (m := env.objs.length) (fun i => some (i * s, s)) _ _ (List.replicate (n * s) .dead) ((Array.range (n * s)).map zf) hpk hpr
     (by have := repVs_dead (w := w) (S := Imm B S0 φ env.objs.length) (φ := φ) (m := env.objs.length) ((Array.range (n * s)).map zf).toList; rwa [hlen] at this) hfill
    refine ⟨cs', ?_, h2, by rw [h3]; simp⟩
    have hb2 : (Instr.buildSlice t n (parts.map fun (x : Nat × Operand) => (x.1, a.eval x.2))).run P w = .ok (.slice (some ⟨w.heap.size, 0, none⟩) n n) (w.alloc (.cells cs' e)) := by
     unfold Instr.buildSlice
     simp only [Sem.run_bind, run_underlying hu, Result.andThen_ok, l6 ht, show ¬ n * s > 2 ^ 24 by omega, if_false]
     by_cases h0 : n * s = 0
     ·
      simp only [h0, if_true, Sem.run_pure, Result.ok.injEq, and_true] at hzs
      subst hzs
      simp only [if_pos h0, Sem.run_bind, Sem.run_pure, Result.andThen_ok, Array.toList_map]
      rw [← hzf, h1]
      simp [newRow]
     ·
      have hzr : (zeroValue e).run P w = .ok zv w := by simp [zeroValue, typeInfo, hi, hz]
      simp only [if_neg h0, Sem.run_bind, hzr, Result.andThen_ok, Sem.run_pure, Result.ok.injEq, and_true] at hzs
      subst hzs
      simp only [if_neg h0, Sem.run_bind, hzr, Sem.run_pure, Result.andThen_ok, Array.toList_map]
      rw [← hzf, h1]
      simp [newRow]
    simp [execOp, hb2]
   obtain ⟨cs', h1, h2, h3⟩ : ∃ cs', (execOp a.eval ⟨dst, .buildSlice t n parts, ty, pos, af, gu⟩).run P w = .ok (.value (.slice (some ⟨w.heap.size, 0, none⟩) n n)) (w.alloc (.cells cs' e)) ∧
      RepVs w (Imm B S0 φ env.objs.length) φ env.objs.length (fillV (fun i => some (i * s, s)) (List.replicate (n * s) V.dead) (parts.toList.map fun x => (x.1, ev env x.2))).2 cs'.toList ∧ cs'.size = n * s := by
    by_cases h0 : n * s = 0
    · exact hmain #[] (by simp [h0])
    · exact hmain zv.cells (by simp [h0, zeroValue, typeInfo, hi, hz])
   refine evalPlus (v := .slice (some ⟨w.heap.size, 0, none⟩) n n) (cur := cs') (rest := []) hd ⟨_, e⟩ _ hr (by simp) h2 h1 ?_ K Q hK
   ·
    simp only [RepV]
    refine ⟨by omega, .inr ⟨w.heap.size, n, cs', e, w6 _ _ _, rfl, Nat.le_refl _, by simp only [maxLen]; omega, heap_alloc_new w _, ?_⟩⟩
    rw [h3]; simp
  · exact hc.elim
 · exact hc.elim

theorem makeSliceF_sound {o : Oper} {t : TypeId} {l c : Operand} (ho : o.op = .makeSlice t l c) (hc : (C2 P env o.dst t (ev env l) (ev env c)).1) : Comes1 P o env (C2 P env o.dst t (ev env l) (ev env c)).2 := by
 obtain ⟨dst, op, ty, pos, af, gu⟩ := o
 simp only at ho
 subst ho
 unfold C2 at hc ⊢
 split at hc
 ·
  rename_i kl ln kc cn e hl hcc he
  have hu := o7 he
  split at hc
  ·
   rename_i s b z ht
   obtain ⟨⟨h0, h1, h2, h2', rfl⟩, hd⟩ := hc
   obtain ⟨i, zv, hi, hs, hb, hz, hzz, hzs⟩ := tyOf_spec' ht
   intro B w0 S0 φ a w hr K Q hK
   have e1 := hr.ev l
   have e2 := hr.ev c
   rw [hl] at e1
   rw [hcc] at e2
   simp only [RepV, RepD] at e1 e2
   have hzv : zv.cells = #[z] := by
    apply Array.toList_inj.1; simpa using hzz
   have hcells : madeCells zv.cells (cn.toNat * 1) = Array.replicate cn.toNat z := by
    rw [hzv]
    apply Array.ext
    · simp [madeCells]
    ·
     intro j h1 h2
     simp [madeCells, Nat.mod_one]
   refine evalPlus (v := .slice (some ⟨w.heap.size, 0, none⟩) ln.toNat cn.toNat) (cur := Array.replicate cn.toNat z) (vals := List.replicate ln.toNat z) (rest := List.replicate (cn.toNat - ln.toNat) z) hd ⟨_, e⟩ _ hr ?_ (repVs_replicate (by simp [RepV, RepD]) _) ?_ ?_ K Q hK
   · rw [Array.toList_replicate, List.replicate_append_replicate]; congr 1; omega
   ·
    have hm := run_make (P := P) w t e i zv hu hi hz kl kc ln cn h0 h1 (by rw [hb, Int.mul_comm]; omega) (by omega)
    rw [hs, hcells] at hm
    simp [execOp, e1, e2, hm]
   ·
    simp only [RepV]
    refine ⟨by omega, .inr ⟨w.heap.size, cn.toNat, _, e, w6 _ _ _, rfl, by omega, by simp only [maxLen]; omega, heap_alloc_new w _, by simp⟩⟩
  · exact hc.elim
 · exact hc.elim
end
end Go.PW
