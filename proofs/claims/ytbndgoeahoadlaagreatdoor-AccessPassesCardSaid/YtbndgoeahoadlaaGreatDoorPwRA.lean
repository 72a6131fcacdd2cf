import Derived.Test.YtbndgoeahoadlaaGreatDoorPwR
set_option linter.all false
namespace Go.PW
open Go.RowKit

section
variable {w w' : World} {S S' : Nat → Prop} {φ φ' : Nat → Option Nat} {m m' : Nat}

structure TurnsE (w : World) (S : Nat → Prop) (φ : Nat → Option Nat) (m : Nat) (w' : World) (S' : Nat → Prop) (φ' : Nat → Option Nat) (m' : Nat) : Prop where
 keeps : Keeps w S w' S'
 le : m ≤ m'
 own : ∀ i g, i < m → φ i = some g → φ' i = some g ∧ ∀ cur e, w.heap[g]? = some (.cells cur e (0, 0)) → w'.heap[g]? = some (.cells cur e (0, 0))

theorem TurnsE.low (h : TurnsE w S φ m w' S' φ' m') {g : Nat} (hg : g ≤ m) : TurnsE w S φ g w' S' φ' g := ⟨h.keeps, Nat.le_refl _, fun i x hi => h.own i x (by omega)⟩

mutual
theorem RepV.monoE (h : TurnsE w S φ m w' S' φ' m') : ∀ (d : V) (v : Value), RepV w S φ m d v → RepV w' S' φ' m' d v
 | .d x, v, hv => by simp only [RepV] at hv ⊢; exact RepD.mono h.keeps x v hv
 | .own i off n sz, v, hv => by
  simp only [RepV] at hv ⊢
  obtain ⟨hi, hv⟩ := hv
  refine ⟨Nat.lt_of_lt_of_le hi h.le, hv.imp id ?_⟩
  rintro ⟨g, cap, cur, e, hg, rfl, hn, hm, hh, hr⟩
  obtain ⟨hφ, hb⟩ := h.own i g hi hg
  exact ⟨g, cap, cur, e, hφ, rfl, hn, hm, hb cur e hh, hr⟩
 | .ptr i off, v, hv => by
  simp only [RepV] at hv ⊢
  obtain ⟨hi, g, hg, rfl⟩ := hv
  exact ⟨Nat.lt_of_lt_of_le hi h.le, g, (h.own i g hi hg).1, rfl⟩
 | .agg cells, v, hv => by
  simp only [RepV] at hv ⊢
  obtain ⟨vs, rfl, hr⟩ := hv
  exact ⟨vs, rfl, RepVs.monoE h cells vs hr⟩
 | .clo f caps, v, hv => by
  simp only [RepV] at hv ⊢
  obtain ⟨vs, rfl, hr⟩ := hv
  exact ⟨vs, rfl, RepVs.monoE h caps vs hr⟩
 | .tup ds, v, hv => by
  simp only [RepV] at hv ⊢
  obtain ⟨vs, rfl, hr⟩ := hv
  exact ⟨vs, rfl, RepVs.monoE h ds vs hr⟩
 | .guarded c r, v, hv => by simp only [RepV] at hv ⊢; exact ⟨fun hc => RepV.monoE h r v (hv.1 hc), hv.2⟩
 | .dead, _, _ => by simp [RepV]
 | .emp, _, hv => by simpa only [RepV] using hv
 | .bnd f x, v, hv => by simp only [RepV] at hv ⊢; obtain ⟨u, e, hr⟩ := hv; exact ⟨u, e, RepD.mono h.keeps x u hr⟩
 | .slf i, v, hv => by
  simp only [RepV] at hv ⊢
  obtain ⟨hi, g, cur, e, hg, hc, hs, hv⟩ := hv
  exact ⟨Nat.lt_of_lt_of_le hi h.le, g, cur, e, (h.own i g hi hg).1, (h.own i g hi hg).2 cur e hc, hs, hv⟩
theorem RepVs.monoE (h : TurnsE w S φ m w' S' φ' m') : ∀ (ds : List V) (vs : List Value), RepVs w S φ m ds vs → RepVs w' S' φ' m' ds vs
 | [], vs, hv => by simpa [RepVs] using hv
 | d :: ds, vs, hv => by
  simp only [RepVs] at hv ⊢
  obtain ⟨v, vs', rfl, hr, ht⟩ := hv
  exact ⟨v, vs', rfl, RepV.monoE h d v hr, RepVs.monoE h ds vs' ht⟩
end

theorem ObRep.monoE (h : TurnsE w S φ m w' S' φ' m') {i : Nat} {ob : Ob} (hi : i < m) (hn : φ i = none → φ' i = none) (ho : ObRep w S φ m i ob) : ObRep w' S' φ' m' i ob := by
 rcases ho with ⟨h1, h2⟩ | ⟨g, cur, vals, rest, h1, h2, h3, h4⟩
 · exact .inl ⟨hn h1, h2⟩
 · exact .inr ⟨g, cur, vals, rest, (h.own i g hi h1).1, (h.own i g hi h1).2 cur _ h2, h3, RepVs.monoE h _ _ h4⟩
end

section
variable {B : Nat} {w0 : World} {S0 : Nat → Prop} {φ : Nat → Option Nat} {env : Env} {a : Act} {w w' : World} {nt : Nat} {objs : List Ob} {gs : Nat × List (V × Value × Nat)} {th : (Nat → World → Prop) × Bool} {f : Nat → V}
variable {P : Program} {ops : Array Oper} {md : Region.Mode}

theorem Grows.turnsE0 (hg : Grows w w') (N : Nat) : TurnsE w (Imm B S0 φ N) φ N w' (Imm B S0 φ N) φ N :=
 ⟨fun b o _ hb hc => ⟨(hg.below.cell (p := ⟨b, o, none⟩) (cell_lt hc)).trans hc, hb⟩, Nat.le_refl _, fun _ g _ hi => ⟨hi, fun cur _ hc => (hg.below.block g (heap_lt hc)).trans hc⟩⟩

theorem Grows.turnsE (hg : Grows w w') (N : Nat) {k : Nat} (hk : φ k = none) {g : Option Nat} (hnew : ∀ x, g = some x → w.heap.size ≤ x) :
  TurnsE w (Imm B S0 φ N) φ N w' (Imm B S0 (φnew φ k g) N) (φnew φ k g) N := by
 refine ⟨fun b o _ hb hc => ?_, Nat.le_refl _, fun i x _ hi => ?_⟩
 ·
  have hlt := cell_lt hc
  refine ⟨(hg.below.cell (p := ⟨b, o, none⟩) hlt).trans hc, hb.1, fun i hi => ?_⟩
  simp only [φnew]
  split
  · intro e; have := hnew b e; omega
  · exact hb.2 i hi
 ·
  have hik : i ≠ k := by rintro rfl; rw [hk] at hi; cases hi
  exact ⟨by simp only [φnew, if_neg hik]; exact hi, fun cur _ hc => (hg.below.block x (heap_lt hc)).trans hc⟩

theorem RelF.live_lt (h : RelF B w0 S0 φ nt objs gs th f a w) {i g : Nat} (hi : i < objs.length) (hg : φ i = some g) : g < w.heap.size := by
 rcases h.objsR i objs[i] (by simp [hi]) with ⟨h1, _⟩ | ⟨g', cur, vals, rest, h1, h2, _⟩
 · rw [hg] at h1; cases h1
 · rw [hg] at h1; cases h1; exact heap_lt h2

def Made (B : Nat) (S0 : Nat → Prop) (φ : Nat → Option Nat) (N k : Nat) (ob : Ob) (r : V) (w : World) (v : Value) (w' : World) : Prop :=
 Grows w w' ∧ ∃ g : Option Nat, (∀ x, g = some x → w.heap.size ≤ x) ∧ ObRep w' (Imm B S0 (φnew φ k g) N) (φnew φ k g) N k ob ∧ RepV w' (Imm B S0 (φnew φ k g) N) (φnew φ k g) N r v

theorem RelF.made (h : RelF B w0 S0 φ nt objs gs th f a w) {k : Nat} (hk : φ k = none) {ob : Ob} (hob : objs[k]? = some ⟨[], ob.e⟩) (hg : Grows w w') {g : Option Nat} (hnew : ∀ x, g = some x → w.heap.size ≤ x)
  (hrep : ObRep w' (Imm B S0 (φnew φ k g) objs.length) (φnew φ k g) objs.length k ob) : RelF B w0 S0 (φnew φ k g) nt objs gs th f a w' := by
 have hbw : B ≤ w.heap.size := Nat.le_trans h.base.1 h.below.size
 have ht : TurnsE w (Imm B S0 φ objs.length) φ objs.length w' (Imm B S0 (φnew φ k g) objs.length) (φnew φ k g) objs.length := hg.turnsE _ hk hnew
 have hkN : k < objs.length := (List.getElem?_eq_some_iff.1 hob).1
 refine ⟨h.below.trans (hg.below.mono hbw), h.base, h.nodef.keeps hg.others, h.size, fun t => RepV.monoE ht _ _ (h.tmps t), fun i ob' hi => ?_, fun i x hi hx => ?_, fun i j x hi hj hx hy => ?_, h.ghost.1, fun x hx => ⟨(h.ghost.2 x hx).1, RepV.monoE (ht.low (Nat.le_trans (h.ghost.2 x hx).1 h.ghost.1)) _ _ (h.ghost.2 x hx).2⟩⟩
 ·
  by_cases e : i = k
  ·
   subst e
   rw [hob] at hi
   simp only [Option.some.injEq] at hi
   subst hi
   rcases hrep with ⟨h1, _⟩ | ⟨g', cur, vals, rest, h1, h2, _, _⟩
   · exact .inl ⟨h1, rfl⟩
   · exact .inr ⟨g', cur, [], cur.toList, h1, h2, rfl, by simp [RepVs]⟩
  · exact (h.objsR i ob' hi).monoE ht (List.getElem?_eq_some_iff.1 hi).1 fun hn => by simp only [φnew, if_neg e]; exact hn
 ·
  by_cases e : i = k
  · subst e; rw [w6] at hx; exact Nat.le_trans hbw (hnew x hx)
  · simp only [φnew, if_neg e] at hx; exact h.low i x hi hx
 ·
  by_cases e : i = k <;> by_cases e' : j = k
  · omega
  ·
   subst e; rw [w6] at hx; simp only [φnew, if_neg e'] at hy
   have := hnew x hx; have := h.live_lt hj hy; omega
  ·
   subst e'; rw [w6] at hy; simp only [φnew, if_neg e] at hx
   have := hnew x hy; have := h.live_lt hi hx; omega
  ·
   simp only [φnew, if_neg e, if_neg e'] at hx hy
   exact h.inj i j x hi hj hx hy

def Makes (P : Program) (ops : Array Oper) (o : Oper) (nt : Nat) (objs : List Ob) (f : Nat → V) (k : Nat) (ob : Ob) (r : V) : Prop :=
 okD' nt o.dst ∧ o.guard = none ∧ ∀ B w0 S0 φ a w, RelF B w0 S0 φ nt objs (0, []) (fun _ _ => True, true) (only (o.looksAt ops) f) a w → φ k = none →
  (∃ v w', (execOp a.eval o).run P w = .ok (.value v) w' ∧ Made B S0 φ objs.length k ob r w v w') ∨
   ∃ g us, (execOp a.eval o).run P w = .ok (.enter g us) w ∧ Calls P g us w fun e w' => ∃ v, e = .returned v ∧ Made B S0 φ objs.length k ob r w v w'

def Wrote (B : Nat) (S0 : Nat → Prop) (φ : Nat → Option Nat) (N k : Nat) (x y : Ob) (w w' : World) : Prop :=
 ∃ g cur cs, φ k = some g ∧ w.heap[g]? = some (.cells cur x.e (0, 0)) ∧ cur.size = cs.size ∧ w' = w.setRow g cs ∧ ObRep w' (Imm B S0 φ N) φ N k y

theorem RelF.wrote (h : RelF B w0 S0 φ nt objs gs th f a w) {k g : Nat} {e : TypeId} {cur cs : Array Value} (hkl : k < objs.length) (hob : objs[k]? = some ⟨[], e⟩) (hg : φ k = some g) (hh : w.heap[g]? = some (.cells cur e (0, 0))) (hsz : cur.size = cs.size) :
  RelF B w0 S0 φ nt objs gs th f a (w.setRow g cs) ∧ ∀ i ob, i < objs.length → i ≠ k → ObRep w (Imm B S0 φ objs.length) φ objs.length i ob → ObRep (w.setRow g cs) (Imm B S0 φ objs.length) φ objs.length i ob := by
 have ht : Turns w (Imm B S0 φ objs.length) φ objs.length (w.setRow g cs) (Imm B S0 φ objs.length) φ objs.length (fun _ => False) := by
  refine ⟨fun b o x hb hx => ⟨?_, hb⟩, others_setRow _ hh, Nat.le_refl _, fun j hj _ => ⟨rfl, fun g' hg' cur' e' hh' => ?_⟩⟩
  · rw [cell_setRow _ (fun e => hb.2 k hkl (by rw [e, hg]))]; exact hx
  ·
   by_cases e : g' = g
   ·
    subst e
    rw [hh] at hh'; cases hh'
    exact ⟨_, setRow_heap w g' cur _ _ _ hh, hsz⟩
   · exact ⟨cur', (setRow_other w g g' _ e).trans hh', rfl⟩
 have hoth : ∀ i ob, i < objs.length → i ≠ k → ObRep w (Imm B S0 φ objs.length) φ objs.length i ob → ObRep (w.setRow g cs) (Imm B S0 φ objs.length) φ objs.length i ob := by
  intro i ob hi hik ho
  refine ho.mono ht rfl fun g' hg' => setRow_other w g g' _ ?_
  rintro rfl
  exact hik (h.inj i k g' hi hkl hg' hg)
 refine ⟨⟨h.below.trans (below_setRow _ (h.low k g hkl hg)), h.base, h.nodef.keeps ht.oth, h.size, fun t => RepV.mono ht _ _ (h.tmps t), fun i ob hi => ?_, h.low, h.inj, h.ghost.1, fun x hx => ⟨(h.ghost.2 x hx).1, RepV.mono (ht.low (Nat.le_trans (h.ghost.2 x hx).1 h.ghost.1)) _ _ (h.ghost.2 x hx).2⟩⟩, hoth⟩
 by_cases e : i = k
 ·
  subst e
  rw [hob] at hi
  cases hi
  exact .inr ⟨g, cs, [], cs.toList, hg, setRow_heap w g cur _ _ _ hh, rfl, by simp [RepVs]⟩
 · exact hoth i ob (List.getElem?_eq_some_iff.1 hi).1 e (h.objsR i ob hi)

def Writes (P : Program) (ops : Array Oper) (o : Oper) (nt : Nat) (objs : List Ob) (f : Nat → V) (k : Nat) (x y : Ob) : Prop :=
 o.dst = none ∧ o.guard = none ∧ ∀ B w0 S0 φ a w, RelF B w0 S0 φ nt objs (0, []) (fun _ _ => True, true) (only (o.looksAt ops) f) a w →
  φ k ≠ none ∧ (ObRep w (Imm B S0 φ objs.length) φ objs.length k x → ∃ w', (execOp a.eval o).run P w = .ok .skip w' ∧ Wrote B S0 φ objs.length k x y w w')

def Does (P : Program) (ops : Array Oper) (mk : Nat → Option (Nat × Ob)) (wr : Nat → Option (Nat × Ob × Ob)) (nt : Nat) (objs : List Ob) (i : Nat) (o : Oper) (f : Nat → V) (r : V) : Prop :=
 match wr i with
 | some (k, x, y) => Writes P ops o nt objs f k x y
 | none => match mk i with
  | none => Yields P ops o nt objs f r
  | some (k, ob) => Makes P ops o nt objs f k ob r

variable {mk : Nat → Option (Nat × Ob)} {wr : Nat → Option (Nat × Ob × Ob)}

theorem Does.only {i : Nat} {o : Oper} {f f' : Nat → V} {r : V} (e : PW.only (o.looksAt ops) f = PW.only (o.looksAt ops) f') (h : Does P ops mk wr nt objs i o f r) : Does P ops mk wr nt objs i o f' r := by
 unfold Does at *
 split
 · rename_i k x y hw; simp only [hw] at h; unfold Writes at *; rwa [← e]
 ·
  rename_i hw
  simp only [hw] at h
  split
  · rename_i hm; simp only [hm] at h; unfold Yields at *; rwa [← e]
  · rename_i k ob hm; simp only [hm] at h; unfold Makes at *; rwa [← e]

def bOp (P : Program) (ops : Array Oper) (mk : Nat → Option (Nat × Ob)) (wr : Nat → Option (Nat × Ob × Ob)) (nt : Nat) (objs : List Ob) (i : Nat) (K : (Nat → V) → Prop) (f : Nat → V) : Prop :=
 match ops[i]? with
 | none => K f
 | some o => ∃ r, Does P ops mk wr nt objs i o f r ∧ K (putF f o.dst r)

theorem bOp_mono {i : Nat} {f : Nat → V} {K K' : (Nat → V) → Prop} (h : ∀ f, K f → K' f) (hh : bOp P ops mk wr nt objs i K f) : bOp P ops mk wr nt objs i K' f := by
 unfold bOp at *
 split
 · rename_i ho; simp only [ho] at hh; exact h _ hh
 · rename_i o ho; simp only [ho] at hh; obtain ⟨r, h1, h2⟩ := hh; exact ⟨r, h1, h _ h2⟩

def bAnyL (P : Program) (md : Region.Mode) (ops : Array Oper) (mk : Nat → Option (Nat × Ob)) (wr : Nat → Option (Nat × Ob × Ob)) (nt : Nat) (objs : List Ob) (n : Nat) (L : Array Bool → (Nat → V) → Prop) : Nat → Array Bool → (Nat → V) → Prop
 | 0, listed, f => L listed f
 | k + 1, listed, f => Region.ready md ops listed ≠ [] ∧ ∀ i ∈ Region.ready md ops listed, i < n ∧ bOp P ops mk wr nt objs i (bAnyL P md ops mk wr nt objs n L k (listed.setIfInBounds i true)) f

theorem bOp_put {i j : Nat} {oi oj : Oper} {r : V} (hj : ops[j]? = some oj) (hap : oi.apart ops oj = true) {K : (Nat → V) → Prop} (hy : Does P ops mk wr nt objs i oi f r) (h : bOp P ops mk wr nt objs j K (putF f oi.dst r)) :
  bOp P ops mk wr nt objs j (fun f' => Does P ops mk wr nt objs i oi f' r ∧ K (putF f' oi.dst r)) f := by
 obtain ⟨h1, h2⟩ := apart_dst hap
 unfold bOp at *
 simp only [hj] at *
 obtain ⟨s, hs, hK⟩ := h
 refine ⟨s, ?_, ?_, ?_⟩
 · exact hs.only (only_put fun t ht => (h1 t ht).1)
 · exact hy.only (only_put fun t ht => h2 t ht).symm
 · rwa [putF_comm fun t ht => fun e => (h1 t e).2 ht]

theorem bAnyL_first {n i : Nat} {oi : Oper} {r : V} {L : Array Bool → (Nat → V) → Prop} (hi : ops[i]? = some oi)
  (hs : Region.sinkB md ops n = true) (hc : Region.chainB md ops n = true) (hn : n < ops.size) (hin : i < n)
  (hdone : ∀ listed f, L listed f → ∀ j ∈ Region.ready md ops listed, n ≤ j) :
  ∀ (k : Nat) (listed : Array Bool) (f : Nat → V), HeadInv md ops n listed →
   (∀ j oj, ops[j]? = some oj → j ≠ i → listed.getD j true = false → (∀ e ∈ oj.after, Region.binds md e = true → e.on ≠ i) → oi.apart ops oj = true) →
   i ∈ Region.ready md ops listed → Does P ops mk wr nt objs i oi f r →
   bAnyL P md ops mk wr nt objs n L k (listed.setIfInBounds i true) (putF f oi.dst r) → bAnyL P md ops mk wr nt objs n L (k + 1) listed f := by
 intro k
 have put : ∀ (f : Nat → V) (K : (Nat → V) → Prop), Does P ops mk wr nt objs i oi f r → K (putF f oi.dst r) → bOp P ops mk wr nt objs i K f := by
  intro f K hy hK; unfold bOp; simp only [hi]; exact ⟨r, hy, hK⟩
 induction k with
 | zero =>
  intro listed f inv _ hr hy H
  have hun := (mem_ready.1 hr).1
  refine ⟨fun h => (by rw [h] at hr; cases hr), fun j hj => ?_⟩
  have hjn : j < n := by
   rcases Nat.lt_or_ge j n with h | h
   · exact h
   · exact absurd hj (tail_waits hs hc hn inv _ i rfl hin hun j h)
  refine ⟨hjn, ?_⟩
  by_cases hji : j = i
  · subst hji; exact put _ _ hy H
  ·
   have := hdone _ _ H j (ready_mono hj hji)
   omega
 | succ k ih =>
  intro listed f inv hfree hr hy H
  have hun := (mem_ready.1 hr).1
  refine ⟨fun h => (by rw [h] at hr; cases hr), fun j hj => ?_⟩
  have hjn : j < n := by
   rcases Nat.lt_or_ge j n with h | h
   · exact h
   · exact absurd hj (tail_waits hs hc hn inv _ i rfl hin hun j h)
  refine ⟨hjn, ?_⟩
  by_cases hji : j = i
  · subst hji; exact put _ _ hy H
  ·
   have h1 := (H.2 j (ready_mono hj hji)).2
   obtain ⟨hjun, oj, hoj, hall⟩ := mem_ready.1 hj
   have hnot : ∀ e ∈ oj.after, Region.binds md e = true → e.on ≠ i := fun e he hb heq => by
    have h1 := hall e he hb
    rw [heq, getD_both hun] at h1
    cases h1
   have h2 := bOp_put hoj (hfree j oj hoj hji hjun hnot) hy h1
   have hfree' : ∀ k ok, ops[k]? = some ok → k ≠ i → (listed.setIfInBounds j true).getD k true = false →
     (∀ e ∈ ok.after, Region.binds md e = true → e.on ≠ i) → oi.apart ops ok = true := fun k ok hk hki hun hno => by
    refine hfree k ok hk hki ?_ hno
    by_cases hjk : j = k
    · subst hjk; exact hjun
    · rw [getD_set_ne true hjk] at hun; exact hun
   refine bOp_mono (fun f' h3 => ih (listed.setIfInBounds j true) f' (inv.set hj hjn) hfree' (ready_mono hr (Ne.symm hji)) h3.1 ?_) h2
   rw [Array.setIfInBounds_comm _ _ hji]
   exact h3.2

structure Pend (mk : Nat → Option (Nat × Ob)) (wr : Nat → Option (Nat × Ob × Ob)) (listed : Array Bool) (B : Nat) (S0 : Nat → Prop) (φ : Nat → Option Nat) (N : Nat) (w : World) : Prop where
 size : ∀ i k ob, mk i = some (k, ob) → i < listed.size
 fresh : ∀ i k ob, mk i = some (k, ob) → listed.getD i true = false → φ k = none
 made : ∀ i k ob, mk i = some (k, ob) → listed.getD i false = true → (∀ j x y, wr j = some (k, x, y) → listed.getD j true = false) → ObRep w (Imm B S0 φ N) φ N k ob
 written : ∀ j k x y, wr j = some (k, x, y) → listed.getD j false = true → φ k ≠ none ∧ ObRep w (Imm B S0 φ N) φ N k y

theorem getD_true {listed : Array Bool} {i : Nat} (hi : i < listed.size) (h : listed.getD i true ≠ false) : listed.getD i false = true := by
 rw [Array.getD_eq_getD_getElem?] at *
 simp only [Array.getElem?_eq_getElem hi, Option.getD_some] at *
 simpa using h

theorem getD_set_self (listed : Array Bool) (i : Nat) : (listed.setIfInBounds i true).getD i true = true := by
 rw [Array.getD_eq_getD_getElem?, Array.getElem?_setIfInBounds]
 simp only [if_true]
 split <;> rfl

theorem C1 {ro : Option Nat} {gs : Nat × List (V × Value × Nat)} {th : (Nat → World → Prop) × Bool} {n g : Nat} {L : Array Bool → (Nat → V) → Prop} {Q' : Exit → Act → World → Prop} (B : Nat) (w0 : World) (S0 : Nat → Prop)
  (hmk : ∀ i k ob, mk i = some (k, ob) → objs[k]? = some ⟨[], ob.e⟩) (hinj : ∀ i j k ob ob', mk i = some (k, ob) → mk j = some (k, ob') → i = j)
  (hwr : ∀ j k x y, wr j = some (k, x, y) → ∃ i, mk i = some (k, x)) (hwinj : ∀ i j k x y x' y', wr i = some (k, x, y) → wr j = some (k, x', y') → i = j)
  (hdisj : ∀ i k ob, mk i = some (k, ob) → wr i = none)
  (hL : ∀ listed f φ a w, L listed f → RelF B w0 S0 φ nt objs gs th f a w → Pend mk wr listed B S0 φ objs.length w → wpAnyIn (Fd ro) 1 P md ops Q' g listed a w) :
  ∀ (k : Nat) (listed : Array Bool) (f : Nat → V), bAnyL P md ops mk wr nt objs n L k listed f → ∀ φ a w, RelF B w0 S0 φ nt objs gs th f a w → Pend mk wr listed B S0 φ objs.length w → wpAnyIn (Fd ro) 1 P md ops Q' (k + g) listed a w
 | 0, listed, f, h, φ, a, w, hr, hp => by rw [Nat.zero_add]; exact hL _ _ _ _ _ h hr hp
 | k + 1, listed, f, h, φ, a, w, hr, hp => by
  rw [show k + 1 + g = (k + g) + 1 by omega]
  refine ⟨fun h0 => absurd h0 h.1, fun i hi => ?_⟩
  have ha := (h.2 i hi).2
  obtain ⟨hun, o, ho, _⟩ := mem_ready.1 hi
  unfold bOp at ha
  unfold wpOpIn
  simp only [ho] at ha ⊢
  obtain ⟨r, hd, hK⟩ := ha
  have hmkl : ∀ {i k ob}, mk i = some (k, ob) → k < objs.length := fun hm => (List.getElem?_eq_some_iff.1 (hmk _ _ _ hm)).1
  unfold Does at hd
  split at hd
  ·
   -- a store
   rename_i kk x y hwi
   obtain ⟨hdst, hgu, hy⟩ := hd
   obtain ⟨i0, hm0⟩ := hwr i kk x y hwi
   obtain ⟨hne, hy⟩ := hy _ _ _ _ _ _ (hr.noGs.only _)
   have hl0 : listed.getD i0 false = true := getD_true (hp.size _ _ _ hm0) fun hl => hne (hp.fresh _ _ _ hm0 hl)
   have hx := hp.made _ _ _ hm0 hl0 fun j x' y' hj => by have := hwinj _ _ _ _ _ _ _ hwi hj; subst this; exact hun
   obtain ⟨w', hrun, gg, cur, cs, hg, hh, hsz, rfl, hob⟩ := hy hx
   obtain ⟨hr', hoth⟩ := hr.wrote (hmkl hm0) (hmk _ _ _ hm0) hg hh hsz
   rw [if_pos (k7 hgu _)]
   refine wp_skipped hrun ?_
   refine C1 B w0 S0 hmk hinj hwr hwinj hdisj hL k _ _ hK _ _ _ (by rw [hdst]; exact hr') ⟨fun i' k' ob hm => by simpa using hp.size _ _ _ hm, fun i' k' ob hm => ?_, fun i' k' ob hm hl hno => ?_, fun j k' x' y' hj hl => ?_⟩
   ·
    have : i ≠ i' := by rintro rfl; rw [hdisj _ _ _ hm] at hwi; cases hwi
    rw [getD_set_ne true this]; exact hp.fresh _ _ _ hm
   ·
    have : i ≠ i' := by rintro rfl; rw [hdisj _ _ _ hm] at hwi; cases hwi
    rw [getD_set_ne false this] at hl
    have hkk : k' ≠ kk := by rintro rfl; have := hno i x y hwi; rw [getD_set_self] at this; cases this
    refine hoth _ _ (hmkl hm) hkk (hp.made _ _ _ hm hl fun j x' y' hj => ?_)
    have := hno j x' y' hj
    have hji : i ≠ j := by rintro rfl; rw [hwi] at hj; simp only [Option.some.injEq, Prod.mk.injEq] at hj; exact hkk hj.1.symm
    rwa [getD_set_ne true hji] at this
   ·
    by_cases hji : i = j
    ·
     subst hji
     rw [hwi] at hj
     simp only [Option.some.injEq, Prod.mk.injEq] at hj
     obtain ⟨rfl, rfl, rfl⟩ := hj
     exact ⟨hne, hob⟩
    ·
     rw [getD_set_ne false hji] at hl
     obtain ⟨h1, h2⟩ := hp.written _ _ _ _ hj hl
     obtain ⟨i1, hm1⟩ := hwr _ _ _ _ hj
     exact ⟨h1, hoth _ _ (hmkl hm1) (by rintro rfl; exact hji (hwinj _ _ _ _ _ _ _ hwi hj)) h2⟩
  rename_i hwi
  have hwne : ∀ {j k x y}, wr j = some (k, x, y) → i ≠ j := fun hj => by rintro rfl; rw [hwi] at hj; cases hj
  split at hd
  ·
   rename_i hmi
   obtain ⟨hd, hy⟩ := hd
   have hp' : ∀ {w'}, Grows w w' → Pend mk wr (listed.setIfInBounds i true) B S0 φ objs.length w' := fun {w'} hg => by
    have hne : ∀ {i' k' ob}, mk i' = some (k', ob) → i ≠ i' := fun hm => by rintro rfl; rw [hmi] at hm; cases hm
    refine ⟨fun i' k' ob hm => by simpa using hp.size _ _ _ hm, fun i' k' ob hm => ?_, fun i' k' ob hm hl hno => ?_, fun j k' x y hj hl => ?_⟩
    · rw [getD_set_ne true (hne hm)]; exact hp.fresh _ _ _ hm
    ·
     rw [getD_set_ne false (hne hm)] at hl
     refine (hp.made _ _ _ hm hl fun j x y hj => ?_).monoE (hg.turnsE0 _) (hmkl hm) id
     have := hno j x y hj
     rwa [getD_set_ne true (hwne hj)] at this
    ·
     rw [getD_set_ne false (hwne hj)] at hl
     obtain ⟨h1, h2⟩ := hp.written _ _ _ _ hj hl
     obtain ⟨i1, hm1⟩ := hwr _ _ _ _ hj
     exact ⟨h1, h2.monoE (hg.turnsE0 _) (hmkl hm1) id⟩
   rcases hy _ _ _ _ _ _ (hr.noGs.only _) with ⟨hw, hy⟩ | ⟨hw, hy⟩
   ·
    rw [if_pos hw]
    rcases hy with ⟨v, w', hv, hg, hrep⟩ | ⟨gf, us, hex, hcalls⟩
    · exact B3 hv (C1 B w0 S0 hmk hinj hwr hwinj hdisj hL k _ _ hK _ _ _ ((hr.grow hg).put o.dst hd hrep) (hp' hg))
    ·
     refine wp_enter hex (hcalls.mono ?_)
     rintro e w' ⟨v, rfl, hg, hrep⟩
     exact ⟨v, rfl, C1 B w0 S0 hmk hinj hwr hwinj hdisj hL k _ _ hK _ _ _ ((hr.grow hg).put o.dst hd hrep) (hp' hg)⟩
   ·
    rw [if_neg (by rw [hw]; simp)]
    exact ⟨fun _ _ => trivial, C1 B w0 S0 hmk hinj hwr hwinj hdisj hL k _ _ hK _ _ _ (hr.put o.dst hd hy) (hp' (Grows.refl w))⟩
  ·
   rename_i kk ob hmi
   obtain ⟨hd, hgu, hy⟩ := hd
   have hk0 : φ kk = none := hp.fresh i kk ob hmi hun
   have fin : ∀ v w', Made B S0 φ objs.length kk ob r w v w' → wpAnyIn (Fd ro) 1 P md ops Q' (k + g) (listed.setIfInBounds i true) (a.put o.dst v) w' := by
    rintro v w' ⟨hg, x, hnew, hob, hrep⟩
    refine C1 B w0 S0 hmk hinj hwr hwinj hdisj hL k _ _ hK _ _ _ ((hr.made hk0 (hmk _ _ _ hmi) hg hnew hob).put o.dst hd hrep) ⟨fun i' k' ob' hm => by simpa using hp.size _ _ _ hm, fun i' k' ob' hm hl => ?_, fun i' k' ob' hm hl hno => ?_, fun j k' x' y' hj hl => ?_⟩
    ·
     have hne : i ≠ i' := by rintro rfl; rw [getD_set_self] at hl; cases hl
     rw [getD_set_ne true hne] at hl
     have hkk : k' ≠ kk := by rintro rfl; exact hne (hinj _ _ _ _ _ hmi hm)
     simp only [φnew, if_neg hkk]; exact hp.fresh _ _ _ hm hl
    ·
     by_cases hne : i = i'
     ·
      subst hne
      rw [hmi] at hm
      simp only [Option.some.injEq, Prod.mk.injEq] at hm
      obtain ⟨rfl, rfl⟩ := hm
      exact hob
     ·
      rw [getD_set_ne false hne] at hl
      have hkk : k' ≠ kk := by rintro rfl; exact hne (hinj _ _ _ _ _ hmi hm)
      refine (hp.made _ _ _ hm hl fun j x y hj => ?_).monoE (hg.turnsE _ hk0 hnew) (hmkl hm) fun hn => ?_
      ·
       have := hno j x y hj
       rwa [getD_set_ne true (hwne hj)] at this
      · simp only [φnew, if_neg hkk]; exact hn
    ·
     rw [getD_set_ne false (hwne hj)] at hl
     obtain ⟨h1, h2⟩ := hp.written _ _ _ _ hj hl
     obtain ⟨i1, hm1⟩ := hwr _ _ _ _ hj
     have hkk : k' ≠ kk := by rintro rfl; exact h1 hk0
     exact ⟨by simp only [φnew, if_neg hkk]; exact h1, h2.monoE (hg.turnsE _ hk0 hnew) (hmkl hm1) fun hn => by simp only [φnew, if_neg hkk]; exact hn⟩
   rw [if_pos (k7 hgu _)]
   rcases hy _ _ _ _ _ _ (hr.noGs.only _) hk0 with ⟨v, w', hv, hm⟩ | ⟨gf, us, hex, hcalls⟩
   · exact B3 hv (fin v w' hm)
   ·
    refine wp_enter hex (hcalls.mono ?_)
    rintro e w' ⟨v, rfl, hm⟩
    exact ⟨v, rfl, fin v w' hm⟩

def FWO (P : Program) (ops : Array Oper) (n0 : Nat) (es : List TypeId) : List Oper → Nat → List Nat → List Nat → Env → List Ob → (Env → List Ob → Prop) → Prop
 | [], _, own, _, env, acc, K => own = [] ∧ K env acc
 | o :: l, i, own, wd, env, acc, K =>
  (match own with
  | [] => ∃ r, Yields P ops o env.nt env.objs (get env.tmps) r ∧ FWO P ops n0 es l (i + 1) [] wd (putO env o.dst r) acc K
  | j :: own' => if j = i then ∃ ob r, es[acc.length]? = some ob.e ∧ Makes P ops o env.nt env.objs (get env.tmps) (n0 + acc.length) ob r ∧ FWO P ops n0 es l (i + 1) own' wd (putO env o.dst r) (acc ++ [ob]) K
   else ∃ r, Yields P ops o env.nt env.objs (get env.tmps) r ∧ FWO P ops n0 es l (i + 1) (j :: own') wd (putO env o.dst r) acc K) ∨
  (own.head? ≠ some i ∧ ∃ c x y, acc[c]? = some x ∧ c ∉ wd ∧ x.e = y.e ∧ Writes P ops o env.nt env.objs (get env.tmps) (n0 + c) x y ∧ FWO P ops n0 es l (i + 1) own (c :: wd) env (acc.set c y) K)

def wrL : List (Nat × Nat × Ob × Ob) → Nat → Nat → Option (Nat × Ob × Ob)
 | (j, c, x, y) :: ws, n0, i => if i = j then some (n0 + c, x, y) else wrL ws n0 i
 | [], _, _ => none
theorem wrL_none : ∀ {ws : List (Nat × Nat × Ob × Ob)} {n0 i : Nat}, (∀ q ∈ ws, i ≠ q.1) → wrL ws n0 i = none
 | [], _, _, _ => rfl
 | (j, c, x, y) :: ws, n0, i, h => by simp only [wrL]; rw [if_neg (h _ (List.mem_cons_self ..))]; exact wrL_none fun q hq => h q (List.mem_cons_of_mem _ hq)
theorem wrL_spec : ∀ {ws : List (Nat × Nat × Ob × Ob)} {n0 i k : Nat} {x y : Ob}, wrL ws n0 i = some (k, x, y) → ∃ c, (i, c, x, y) ∈ ws ∧ k = n0 + c
 | [], _, _, _, _, _, h => by simp [wrL] at h
 | (j, c, x, y) :: ws, n0, i, k, x', y', h => by
  simp only [wrL] at h
  split at h
  · rename_i e; cases h; exact ⟨c, by simp [e], rfl⟩
  · obtain ⟨c', h1, h2⟩ := wrL_spec h; exact ⟨c', List.mem_cons_of_mem _ h1, h2⟩
theorem wrL_at : ∀ {ws : List (Nat × Nat × Ob × Ob)} {n0 j c : Nat} {x y : Ob}, (ws.map (·.1)).Pairwise (· < ·) → (j, c, x, y) ∈ ws → wrL ws n0 j = some (n0 + c, x, y)
 | [], _, _, _, _, _, _, h => by simp at h
 | (j', c', x', y') :: ws, n0, j, c, x, y, hp, h => by
  simp only [List.map_cons, List.pairwise_cons] at hp
  rcases List.mem_cons.1 h with e | h
  · cases e; simp [wrL]
  ·
   have := hp.1 j (List.mem_map.2 ⟨_, h, rfl⟩)
   simp only [wrL]
   rw [if_neg (by omega)]
   exact wrL_at hp.2 h

structure Stores (k n : Nat) (own wd : List Nat) (obs : List Ob) (ws : List (Nat × Nat × Ob × Ob)) (fin : List Ob) : Prop where
 range : ∀ q ∈ ws, k ≤ q.1 ∧ q.1 < n ∧ q.1 ∉ own ∧ q.2.1 ∉ wd ∧ obs[q.2.1]? = some q.2.2.1 ∧ q.2.2.1.e = q.2.2.2.e ∧ fin[q.2.1]? = some q.2.2.2
 order : (ws.map (·.1)).Pairwise (· < ·)
 once : ∀ q ∈ ws, ∀ q' ∈ ws, q.2.1 = q'.2.1 → q.1 = q'.1
 len : fin.length = obs.length
 same : ∀ c, (∀ q ∈ ws, q.2.1 ≠ c) → fin[c]? = obs[c]?

def mkL : List Nat → List Ob → Nat → Nat → Option (Nat × Ob)
 | j :: js, ob :: obs, k, i => if i = j then some (k, ob) else mkL js obs (k + 1) i
 | _, _, _, _ => none

theorem mkL_none : ∀ {own : List Nat} {obs : List Ob} {k i : Nat}, (∀ j ∈ own, i ≠ j) → mkL own obs k i = none
 | [], _, _, _, _ => by simp [mkL]
 | j :: js, [], _, _, _ => by simp [mkL]
 | j :: js, ob :: obs, k, i, h => by simp only [mkL]; rw [if_neg (h j (by simp))]; exact mkL_none fun x hx => h x (by simp [hx])
theorem mkL_spec : ∀ {own : List Nat} {obs : List Ob} {k0 i k : Nat} {ob : Ob}, mkL own obs k0 i = some (k, ob) → ∃ c, own[c]? = some i ∧ obs[c]? = some ob ∧ k = k0 + c
 | [], _, _, _, _, _, h => by simp [mkL] at h
 | j :: js, [], _, _, _, _, h => by simp [mkL] at h
 | j :: js, ob :: obs, k0, i, k, ob', h => by
  simp only [mkL] at h
  split at h
  · rename_i e; cases h; exact ⟨0, by simp [e], rfl, rfl⟩
  · obtain ⟨c, h1, h2, h3⟩ := mkL_spec h; exact ⟨c + 1, by simpa using h1, by simpa using h2, by omega⟩
theorem mkL_at : ∀ {own : List Nat} {obs : List Ob} {k0 i c : Nat} {ob : Ob}, own.Pairwise (· < ·) → own[c]? = some i → obs[c]? = some ob → mkL own obs k0 i = some (k0 + c, ob)
 | [], _, _, _, _, _, _, h, _ => by simp at h
 | j :: js, [], _, _, _, _, _, _, h => by simp at h
 | j :: js, o :: obs, k0, i, 0, ob, _, h1, h2 => by simp at h1 h2; subst h1; subst h2; simp [mkL]
 | j :: js, o :: obs, k0, i, c + 1, ob, hp, h1, h2 => by
  simp only [List.getElem?_cons_succ] at h1 h2
  rw [List.pairwise_cons] at hp
  have := hp.1 i (List.mem_of_getElem? h1)
  simp only [mkL]
  rw [if_neg (by omega), mkL_at hp.2 h1 h2, show k0 + 1 + c = k0 + (c + 1) by omega]

theorem bAnyL_lex {n g n0 : Nat} {es : List TypeId} {K : Env → List Ob → Prop} (hs : Region.sinkB md ops n = true) (hc : Region.chainB md ops n = true) (hn : n < ops.size) :
  ∀ (l : List Oper) (k : Nat) (own wd : List Nat) (listed : Array Bool) (env : Env) (acc : List Ob), (∀ j, j < l.length → l[j]? = ops[k + j]?) → k + l.length = n → HeadInv md ops n listed →
  Region.lexHead md ops g l.length k listed = true → own.Pairwise (· < ·) → (∀ j ∈ own, k ≤ j) → FWO P ops n0 es l k own wd env acc K →
  ∃ (obs : List Ob) (ws : List (Nat × Nat × Ob × Ob)) (fin : List Ob), obs.length = own.length ∧ (∀ c ob, obs[c]? = some ob → es[acc.length + c]? = some ob.e) ∧ (∀ j ∈ own, j < n) ∧ Stores k n own wd (acc ++ obs) ws fin ∧
   ∀ (mk : Nat → Option (Nat × Ob)) (wr : Nat → Option (Nat × Ob × Ob)), (∀ i, k ≤ i → mk i = mkL own obs (n0 + acc.length) i) → (∀ i, k ≤ i → wr i = wrL ws n0 i) →
   bAnyL P md ops mk wr env.nt env.objs n (fun listed' f' => HeadInv md ops n listed' ∧ Region.seqB md ops g n listed' = true ∧ ∃ env', env'.nt = env.nt ∧ env'.objs = env.objs ∧ env'.gs = env.gs ∧ env'.th = env.th ∧ get env'.tmps = f' ∧ K env' fin) l.length listed (get env.tmps)
 | [], k, own, wd, listed, env, acc, _, hk, inv, hB, _, _, h => by
  have : k = n := by simpa using hk
  subst this
  obtain ⟨rfl, hK⟩ := h
  exact ⟨[], [], acc, rfl, fun c ob h => by simp at h, fun j hj => by simp at hj, ⟨fun q hq => by simp at hq, by simp, fun q hq => by simp at hq, by simp, fun c _ => by simp⟩, fun mk wr _ _ => ⟨inv, by simpa [Region.lexHead] using hB, env, rfl, rfl, rfl, rfl, rfl, hK⟩⟩
 | o :: l, k, own, wd, listed, env, acc, hl, hk, inv, hB, hp, hle, h => by
  have h0 : ops[k]? = some o := by simpa using (hl 0 (by simp)).symm
  simp only [List.length_cons, Region.lexHead, Bool.and_eq_true] at hB
  obtain ⟨⟨hr, hf⟩, hB'⟩ := hB
  have hkn : k < n := by simp only [List.length_cons] at hk; omega
  have hr' : k ∈ Region.ready md ops listed := by simpa using hr
  have step : ∀ (r : V) (own' wd' : List Nat) (acc' : List Ob), own'.Pairwise (· < ·) → (∀ j ∈ own', k + 1 ≤ j) → FWO P ops n0 es l (k + 1) own' wd' (putO env o.dst r) acc' K →
    ∃ (obs : List Ob) (ws : List (Nat × Nat × Ob × Ob)) (fin : List Ob), obs.length = own'.length ∧ (∀ c ob, obs[c]? = some ob → es[acc'.length + c]? = some ob.e) ∧ (∀ j ∈ own', j < n) ∧ Stores (k + 1) n own' wd' (acc' ++ obs) ws fin ∧
     ∀ (mk : Nat → Option (Nat × Ob)) (wr : Nat → Option (Nat × Ob × Ob)), (∀ i, k + 1 ≤ i → mk i = mkL own' obs (n0 + acc'.length) i) → (∀ i, k + 1 ≤ i → wr i = wrL ws n0 i) → Does P ops mk wr env.nt env.objs k o (get env.tmps) r →
     bAnyL P md ops mk wr env.nt env.objs n (fun listed' f' => HeadInv md ops n listed' ∧ Region.seqB md ops g n listed' = true ∧ ∃ env', env'.nt = env.nt ∧ env'.objs = env.objs ∧ env'.gs = env.gs ∧ env'.th = env.th ∧ get env'.tmps = f' ∧ K env' fin) (l.length + 1) listed (get env.tmps) := by
   intro r own' wd' acc' hp' hle' hK
   obtain ⟨obs, ws, fin, h1, h2, h3, hst, h4⟩ := bAnyL_lex (g := g) hs hc hn l (k + 1) own' wd' (listed.setIfInBounds k true) (putO env o.dst r) acc' (fun j hj => by have := hl (j + 1) (by simp; omega); simpa [Nat.add_assoc, Nat.add_comm 1 j] using this) (by simp only [List.length_cons] at hk; omega) (inv.set hr' hkn) hB' hp' hle' hK
   refine ⟨obs, ws, fin, h1, h2, h3, hst, fun mk wr hmk hwr hd => ?_⟩
   have ih := h4 mk wr hmk hwr
   rw [get_putO, (D8 env o.dst r).1, (D8 env o.dst r).2.1, (D8 env o.dst r).2.2.1, (D8 env o.dst r).2.2.2] at ih
   exact bAnyL_first h0 hs hc hn hkn (fun listed' f' hL => seqB_ready hL.2.1) l.length listed _ inv (Region.free_spec h0 hf) hr' hd ih
  -- no store
  have less : ∀ {own' : List Nat} {obs : List Ob} {ws : List (Nat × Nat × Ob × Ob)} {fin : List Ob}, (∀ j ∈ own, j ∈ own' ∨ j = k) → Stores (k + 1) n own' wd obs ws fin → Stores k n own wd obs ws fin := fun hi h => ⟨fun q hq => by
    obtain ⟨h1, h2, h3, h4⟩ := h.range q hq
    exact ⟨by omega, h2, fun hq' => by rcases hi _ hq' with h5 | h5; exact h3 h5; omega, h4⟩, h.order, h.once, h.len, h.same⟩
  have nowr : ∀ {own' : List Nat} {obs : List Ob} {ws : List (Nat × Nat × Ob × Ob)} {fin : List Ob}, Stores (k + 1) n own' wd obs ws fin → wrL ws n0 k = none := fun h => wrL_none fun q hq => by have := (h.range q hq).1; omega
  unfold FWO at h
  rcases h with h | ⟨hhd, c, x, y, hc1, hc2, hxe, hw, hK⟩
  ·
   split at h
   ·
    obtain ⟨r, hy, hK⟩ := h
    obtain ⟨obs, ws, fin, h1, h2, h3, hst, h4⟩ := step r [] wd acc List.Pairwise.nil (fun j hj => by simp at hj) hK
    exact ⟨obs, ws, fin, h1, h2, h3, less (fun j hj => .inl hj) hst, fun mk wr hmk hwr => h4 mk wr (fun i hi => hmk i (by omega)) (fun i hi => hwr i (by omega)) (by
     unfold Does; rw [hwr k (Nat.le_refl _), nowr hst, hmk k (Nat.le_refl _), mkL_none (fun j hj => by simp at hj)]; exact hy)⟩
   ·
    rename_i j own'
    rw [List.pairwise_cons] at hp
    split at h
    ·
     rename_i e
     subst e
     obtain ⟨ob, r, hes, hm, hK⟩ := h
     obtain ⟨obs, ws, fin, h1, h2, h3, hst, h4⟩ := step r own' wd (acc ++ [ob]) hp.2 (fun x hx => hp.1 x hx) hK
     refine ⟨ob :: obs, ws, fin, by simp [h1], fun c ob' hc' => ?_, fun x hx => ?_, by rw [show acc ++ ob :: obs = acc ++ [ob] ++ obs by simp]; exact less (fun x hx => by rcases List.mem_cons.1 hx with h | h; exact .inr h; exact .inl h) hst, fun mk wr hmk hwr => ?_⟩
     ·
      cases c with
      | zero => simp only [List.getElem?_cons_zero, Option.some.injEq] at hc'; subst hc'; simpa using hes
      | succ c => have := h2 c ob' (by simpa using hc'); rw [← this]; congr 1; simp; omega
     ·
      rcases List.mem_cons.1 hx with rfl | hx
      · exact hkn
      · exact h3 x hx
     ·
      exact h4 mk wr (fun i hi => by rw [hmk i (by omega)]; simp only [mkL]; rw [if_neg (by omega)]; congr 1; simp; omega) (fun i hi => hwr i (by omega)) (by
       unfold Does; rw [hwr j (Nat.le_refl _), nowr hst, hmk j (Nat.le_refl _)]; simp only [mkL, if_true]; exact hm)
    ·
     rename_i e
     obtain ⟨r, hy, hK⟩ := h
     have hj : k ≤ j := hle j (by simp)
     have hgt : ∀ x ∈ j :: own', k + 1 ≤ x := fun x hx => by
      rcases List.mem_cons.1 hx with rfl | hx
      · omega
      · have := hp.1 x hx; omega
     obtain ⟨obs, ws, fin, h1, h2, h3, hst, h4⟩ := step r (j :: own') wd acc (List.pairwise_cons.2 hp) hgt hK
     exact ⟨obs, ws, fin, h1, h2, h3, less (fun j hj => .inl hj) hst, fun mk wr hmk hwr => h4 mk wr (fun i hi => hmk i (by omega)) (fun i hi => hwr i (by omega)) (by
      unfold Does; rw [hwr k (Nat.le_refl _), nowr hst, hmk k (Nat.le_refl _), mkL_none (fun x hx => by have := hgt x hx; omega)]; exact hy)⟩
  ·
   -- a store
   have hcl : c < acc.length := (List.getElem?_eq_some_iff.1 hc1).1
   have hnk : ∀ x ∈ own, k + 1 ≤ x := fun z hz => by
    have h1 := hle z hz
    cases own with
    | nil => simp at hz
    | cons j own' =>
     have hjk : j ≠ k := fun e => hhd (by simp [e])
     rw [List.pairwise_cons] at hp
     rcases List.mem_cons.1 hz with rfl | hz
     · omega
     · have := hp.1 z hz; have := hle j (by simp); omega
   have hdst : o.dst = none := hw.1
   obtain ⟨obs, ws, fin, h1, h2, h3, hst, h4⟩ := step .dead own (c :: wd) (acc.set c y) hp hnk (by rw [hdst]; exact hK)
   rw [List.length_set] at h2 h4
   have hset : ∀ c', c' ≠ c → (acc.set c y ++ obs)[c']? = (acc ++ obs)[c']? := fun c' hne => by
    by_cases hlt : c' < acc.length
    · rw [List.getElem?_append_left (by simpa using hlt), List.getElem?_append_left hlt, List.getElem?_set_ne (Ne.symm hne)]
    · rw [List.getElem?_append_right (by simp; omega), List.getElem?_append_right (by omega)]; simp
   have hnc : ∀ q ∈ ws, q.2.1 ≠ c := fun q hq e => (hst.range q hq).2.2.2.1 (by simp [e])
   have hfc : fin[c]? = some y := by
    rw [hst.same c hnc, List.getElem?_append_left (by simpa using hcl)]
    simp [hcl]
   refine ⟨obs, (k, c, x, y) :: ws, fin, h1, h2, h3, ⟨fun q hq => ?_, ?_, fun q hq q' hq' he => ?_, by rw [hst.len]; simp, fun c' hc' => ?_⟩, fun mk wr hmk hwr => ?_⟩
   ·
    rcases List.mem_cons.1 hq with rfl | hq
    · exact ⟨Nat.le_refl _, hkn, fun h5 => by have := hnk _ h5; omega, hc2, by rw [List.getElem?_append_left hcl]; exact hc1, hxe, hfc⟩
    ·
     obtain ⟨g1, g2, g3, g4, g5, g6, g7⟩ := hst.range q hq
     exact ⟨by omega, g2, g3, fun h5 => g4 (List.mem_cons_of_mem _ h5), by rw [← hset _ (hnc q hq)]; exact g5, g6, g7⟩
   ·
    simp only [List.map_cons, List.pairwise_cons]
    refine ⟨fun z hz => ?_, hst.order⟩
    obtain ⟨q, hq, rfl⟩ := List.mem_map.1 hz
    have := (hst.range q hq).1; omega
   ·
    rcases List.mem_cons.1 hq with rfl | hq <;> rcases List.mem_cons.1 hq' with rfl | hq'
    · rfl
    · exact absurd he.symm (hnc q' hq')
    · exact absurd he (hnc q hq)
    · exact hst.once q hq q' hq' he
   · rw [hst.same c' fun q hq => hc' q (List.mem_cons_of_mem _ hq), hset c' (Ne.symm (hc' _ (List.mem_cons_self ..)))]
   ·
    exact h4 mk wr (fun i hi => hmk i (by omega)) (fun i hi => by rw [hwr i (by omega)]; simp only [wrL]; rw [if_neg (by omega)]) (by
     unfold Does; rw [hwr k (Nat.le_refl _)]; simp only [wrL, if_true]; exact hw)

theorem Rel.virts (es : List TypeId) : ∀ {φ : Nat → Option Nat} {env : Env}, Rel B w0 S0 φ env a w → ∃ φ', Rel B w0 S0 φ' { env with objs := env.objs ++ es.map fun e => ⟨[], e⟩ } a w ∧ (∀ i, i < env.objs.length → φ' i = φ i) ∧ ∀ i, env.objs.length ≤ i → i < env.objs.length + es.length → φ' i = none := by
 induction es with
 | nil => intro φ env h; exact ⟨φ, by simpa using h, fun _ _ => rfl, fun i h1 h2 => by simp at h2; omega⟩
 | cons e es ih =>
  intro φ env h
  obtain ⟨φ', h1, h2, h3⟩ := ih (h.virt e)
  simp only [List.length_append, List.length_cons, List.length_nil] at h2 h3
  refine ⟨φ', by simpa [List.append_assoc] using h1, fun i hi => ?_, fun i hi hi' => ?_⟩
  · rw [h2 i (by omega), G3 _ _ hi]
  ·
   by_cases e : i = env.objs.length
   · subst e; rw [h2 _ (by omega), w6]
   · exact h3 i (by omega) (by simp only [List.length_cons] at hi'; omega)

theorem D6 {ro : Option Nat} {id : Nat} {Q : Exit → Env → Prop} {l : List Oper} (n : Nat) (own : List Nat) (es : List TypeId) (hm : P.follows .mixedOrders = true) (hB : Region.lexTailB .any l.toArray n = true)
  (hown : own.Pairwise (· < ·)) (hes : es.length = own.length)
  (h : ∀ K : Env → Prop, (∀ env', Q .normal env' → K env') → FWO P l.toArray env.objs.length es (l.take n) 0 own [] { env with objs := env.objs ++ es.map fun e => ⟨[], e⟩ } [] fun env' obs => OW ro P l (l.drop n) { env' with objs := env.objs ++ obs } K) :
  PW ro P (.region id l.toArray true) Q env := by
 simp only [Region.lexTailB, Bool.and_eq_true, decide_eq_true_eq] at hB
 obtain ⟨⟨⟨⟨hsel, hn⟩, hs⟩, hc⟩, hlex⟩ := hB
 have hn' : n < l.length := by simpa using hn
 have htl : (l.take n).length = n := by simp; omega
 have hdl : (l.drop n).length = l.toArray.size - n := by simp
 have inv0 : HeadInv .any l.toArray n (Array.replicate l.toArray.size false) :=
  ⟨by simp, fun j oj _ hl => (by rw [getD_replicate_false] at hl; cases hl), fun t _ ht => Go.getD_in (by simpa using ht) (getD_replicate_false _ _)⟩
 obtain ⟨obs, ws, fin, ho1, ho2, ho3, hst, H⟩ := bAnyL_lex (P := P) (md := .any) (g := l.toArray.size - n) hs hc hn (l.take n) 0 own [] _ _ [] (fun j hj => by
  have hj' : j < n := by rw [htl] at hj; exact hj
  simp [hj']) (by simpa using htl) inv0 (by rw [htl]; exact hlex) hown (fun _ _ => Nat.zero_le _) (h (Q .normal) fun _ h => h)
 simp only [List.nil_append] at hst
 have H := H (mkL own obs env.objs.length) (wrL ws env.objs.length) (fun i _ => by simp) (fun i _ => rfl)
 have hmk : ∀ i k ob, mkL own obs env.objs.length i = some (k, ob) → (env.objs ++ es.map fun e => (⟨[], e⟩ : Ob))[k]? = some ⟨[], ob.e⟩ := by
  intro i k ob hm
  obtain ⟨c, h1, h2, rfl⟩ := mkL_spec hm
  have := ho2 c ob h2
  simp only [List.length_nil, Nat.zero_add] at this
  rw [List.getElem?_append_right (by omega), Nat.add_sub_cancel_left, List.getElem?_map, this]
  rfl
 have hinj : ∀ i j k ob ob', mkL own obs env.objs.length i = some (k, ob) → mkL own obs env.objs.length j = some (k, ob') → i = j := by
  intro i j k ob ob' h1 h2
  obtain ⟨c, a1, _, a3⟩ := mkL_spec h1
  obtain ⟨d, b1, _, b3⟩ := mkL_spec h2
  have : c = d := by omega
  subst this
  rw [a1] at b1; exact Option.some.inj b1
 have hlen : (env.objs ++ es.map fun e => (⟨[], e⟩ : Ob)).length = (env.objs ++ fin).length := by simp [hes, hst.len, ho1]
 have hwr : ∀ j k x y, wrL ws env.objs.length j = some (k, x, y) → ∃ i, mkL own obs env.objs.length i = some (k, x) := by
  intro j k x y h1
  obtain ⟨c, hq, rfl⟩ := wrL_spec h1
  have hx := (hst.range _ hq).2.2.2.2.1
  have hc' : c < own.length := by rw [← ho1]; exact (List.getElem?_eq_some_iff.1 hx).1
  exact ⟨own[c], mkL_at hown (by simp [hc']) hx⟩
 have hwinj : ∀ i j k x y x' y', wrL ws env.objs.length i = some (k, x, y) → wrL ws env.objs.length j = some (k, x', y') → i = j := by
  intro i j k x y x' y' h1 h2
  obtain ⟨c, hq, e1⟩ := wrL_spec h1
  obtain ⟨c', hq', e2⟩ := wrL_spec h2
  exact hst.once _ hq _ hq' (by dsimp only; omega)
 have hdisj : ∀ i k ob, mkL own obs env.objs.length i = some (k, ob) → wrL ws env.objs.length i = none := by
  intro i k ob h1
  obtain ⟨c, hc1, _, _⟩ := mkL_spec h1
  exact wrL_none fun q hq e => (hst.range q hq).2.2.1 (by rw [← e]; exact List.mem_of_getElem? hc1)
 intro B w0 S0 φ a w hr
 refine wpIn_region_any hm ?_
 obtain ⟨φ', hv1, hv2, hv3⟩ := hr.virts es
 have hr' : RelF B w0 S0 φ' env.nt (env.objs ++ es.map fun e => (⟨[], e⟩ : Ob)) env.gs env.th (get env.tmps) a { w with drawn := w.drawn + 1 } := hv1.toF.grow (Grows.drew w)
 have hp0 : Pend (mkL own obs env.objs.length) (wrL ws env.objs.length) (Array.replicate l.toArray.size false) B S0 φ' (env.objs ++ es.map fun e => (⟨[], e⟩ : Ob)).length { w with drawn := w.drawn + 1 } := by
  refine ⟨fun i k ob hm => ?_, fun i k ob hm _ => ?_, fun i k ob hm hl => (by rw [getD_replicate_false] at hl; cases hl), fun j k x y hj hl => (by rw [getD_replicate_false] at hl; cases hl)⟩
  ·
   obtain ⟨c, hc1, _, _⟩ := mkL_spec hm
   have := ho3 i (List.mem_of_getElem? hc1)
   simp only [Array.size_replicate]; omega
  ·
   have := (List.getElem?_eq_some_iff.1 (hmk i k ob hm)).1
   obtain ⟨c, _, _, rfl⟩ := mkL_spec hm
   exact hv3 _ (by omega) (by simpa using this)
 have := C1 (ro := ro) (md := .any) (Q' := Sat B w0 S0 Q) (g := l.toArray.size - n) (nt := env.nt) (objs := env.objs ++ es.map fun e => (⟨[], e⟩ : Ob)) (gs := env.gs) (th := env.th) (P := P) (n := n) (ops := l.toArray) B w0 S0 hmk hinj hwr hwinj hdisj (fun listed f φ' a' w' hL hrf hpd => by
  obtain ⟨inv, hseq, env', e1, e2, e4, e5, e3, hK⟩ := hL
  subst e3
  -- all of the front is listed
  have hrdy : Region.ready .any l.toArray listed = [n] := by
   have hg1 : l.toArray.size - n = (l.toArray.size - n - 1) + 1 := by simp; omega
   rw [hg1] at hseq
   simp only [Region.seqB, Bool.and_eq_true, decide_eq_true_eq] at hseq
   exact hseq.1
  have hall : ∀ d i, i + d = n → d ≠ 0 → listed.getD i false = true := by
   intro d
   induction d using Nat.strongRecOn with
   | _ d ih =>
    intro i hid hd
    have h1 := List.all_eq_true.1 hs i (by simp; omega)
    obtain ⟨j, hj, h2⟩ := List.any_eq_true.1 h1
    simp only [Bool.and_eq_true, decide_eq_true_eq] at h2
    obtain ⟨oj, hoj, e, he, hb, heq⟩ := Region.waitsFor_spec h2.2
    have hjn : j ≤ n := by simp at hj; omega
    by_cases hjn' : j = n
    ·
     subst hjn'
     have hmem : j ∈ Region.ready .any l.toArray listed := by rw [hrdy]; simp
     obtain ⟨_, oj', hoj', hall⟩ := mem_ready.1 hmem
     have : oj = oj' := Option.some.inj (hoj.symm.trans hoj')
     subst this
     rw [← heq]; exact hall e he hb
    ·
     have hlj := ih (n - j) (by omega) j (by omega) (by omega)
     rw [← heq]; exact inv.closed j oj hoj hlj e he hb
  have hrel : Rel B w0 S0 φ' { env' with objs := env.objs ++ fin } a' w' := by
   refine ⟨hrf.below, hrf.base, by rw [show ({ env' with objs := env.objs ++ fin } : Env).th = env.th from e5]; exact hrf.nodef, by rw [show ({ env' with objs := env.objs ++ fin } : Env).nt = env.nt from e1]; exact hrf.size, ?_, ?_, ?_, ?_, ?_⟩
   · intro t; have := hrf.tmps t; rw [hlen] at this; exact this
   ·
    intro i ob hi
    rw [← hlen]
    dsimp only at hi
    by_cases hlt : i < env.objs.length
    ·
     rw [List.getElem?_append_left hlt] at hi
     exact hrf.objsR i ob (by rw [List.getElem?_append_left hlt]; exact hi)
    ·
     rw [List.getElem?_append_right (by omega)] at hi
     obtain ⟨c, rfl⟩ : ∃ c, i = env.objs.length + c := ⟨i - env.objs.length, by omega⟩
     rw [Nat.add_sub_cancel_left] at hi
     have hc' : c < own.length := by rw [← ho1, ← hst.len]; exact (List.getElem?_eq_some_iff.1 hi).1
     by_cases hex : ∃ q ∈ ws, q.2.1 = c
     ·
      obtain ⟨q, hq, rfl⟩ := hex
      obtain ⟨g1, g2, g3, g4, g5, g6, g7⟩ := hst.range q hq
      have : q.2.2.2 = ob := Option.some.inj (g7.symm.trans hi)
      subst this
      exact (hpd.written _ _ _ _ (wrL_at (n0 := env.objs.length) hst.order (show (q.1, q.2.1, q.2.2.1, q.2.2.2) ∈ ws from hq)) (hall (n - q.1) _ (by omega) (by omega))).2
     ·
      have hi' : obs[c]? = some ob := by rw [← hst.same c fun q hq e => hex ⟨q, hq, e⟩]; exact hi
      have hat := mkL_at (k0 := env.objs.length) hown (show own[c]? = some own[c] by simp [hc']) hi'
      have hlt' := ho3 own[c] (List.getElem_mem _)
      refine hpd.made _ _ _ hat (hall (n - own[c]) _ (by omega) (by omega)) fun j x y hj => ?_
      obtain ⟨c2, hq, e⟩ := wrL_spec hj
      exact absurd ⟨_, hq, by dsimp only; omega⟩ hex
   · intro i g hi hg; exact hrf.low i g (by rw [hlen]; exact hi) hg
   · intro i j g hi hj; exact hrf.inj i j g (by rw [hlen]; exact hi) (by rw [hlen]; exact hj)
   ·
    refine ⟨?_, fun x hx => ?_⟩
    · have := hrf.ghost.1; rw [hlen] at this; rw [show ({ env' with objs := env.objs ++ fin } : Env).gs = env.gs from e4]; exact this
    ·
     rw [show ({ env' with objs := env.objs ++ fin } : Env).gs = env.gs from e4] at hx ⊢
     have := hrf.ghost.2 x hx
     rw [hlen] at this; exact this
  have hwp := hK B w0 S0 φ' a' w' (Sat B w0 S0 Q) hrel fun φ2 env2 a2 w2 hk2 hr2 => ⟨env2, φ2, hk2, hr2⟩
  have := wpAnyIn_of_seq (md := .any) (Q' := Sat B w0 S0 Q) (l.drop n) n listed a' w' (fun j => by simp [List.getElem?_drop]) (by rw [hdl]; exact hseq) hwp
  rwa [hdl] at this) _ _ _ H _ _ _ hr' hp0
 rw [htl, show n + (l.toArray.size - n) = l.toArray.size by omega] at this
 exact this

theorem RelF.keepRel {o : Oper} {env : Env} (hr : RelF B w0 S0 φ env.nt env.objs (0, []) (fun _ _ => True, true) (PW.only (o.looksAt ops) (get env.tmps)) a w) :
  Rel B w0 S0 φ { env with tmps := G2 (o.looksAt ops) env.tmps, gs := (0, []), th := (fun _ _ => True, true) } a w := RelF.toRel (by simpa [q3] using hr)

theorem made_new {env : Env} (hr : Rel B w0 S0 φ env a w) {k : Nat} (hk : k < env.objs.length) (hk0 : φ k = none) {ob : Ob} {cur : Array Value} {vals rest : List Value} (hc : cur.toList = vals ++ rest)
  (hv : RepVs w (Imm B S0 φ env.objs.length) φ env.objs.length ob.cells vals) {r : V} {v : Value}
  (hrep : RepV (w.alloc (.cells cur ob.e)) (Imm B S0 (φnew φ k (some w.heap.size)) env.objs.length) (φnew φ k (some w.heap.size)) env.objs.length r v) :
  Made B S0 φ env.objs.length k ob r w v (w.alloc (.cells cur ob.e)) := by
 have hg := Grows.alloc w (.cells cur ob.e)
 have hnew : ∀ x, some w.heap.size = some x → w.heap.size ≤ x := fun x h => by cases h; exact Nat.le_refl _
 exact ⟨hg, some w.heap.size, hnew, .inr ⟨w.heap.size, cur, vals, rest, w6 _ _ _, heap_alloc_new w _, hc, RepVs.monoE (hg.turnsE _ hk0 hnew) _ _ hv⟩, hrep⟩

theorem Makes.alloc {env : Env} {o : Oper} {e : TypeId} (ho : o.op = .alloc e) (hg : o.guard = none) {s b : Nat} {z : List Value} (ht : F3 P e = some (s, b, z)) (hd : l5 env o.dst) {k : Nat} (hk : k < env.objs.length) :
  Makes P ops o env.nt env.objs (get env.tmps) k ⟨z.map fun x => .d (.val x), e⟩ (.ptr k 0) := by
 refine ⟨A7 hd, hg, fun B w0 S0 φ a w hr hk0 => .inl ?_⟩
 have hr' := hr.keepRel
 obtain ⟨i, zv, hi, hs, hb, hz, hzz⟩ := tyOf_spec ht
 refine ⟨.pointer (some ⟨w.heap.size, 0, none⟩), w.alloc (.cells zv.cells e), by simp [execOp, ho, Instr.alloc, zeroValue, typeInfo, hi, hz, newVar, newRow], ?_⟩
 refine made_new (env := { env with tmps := G2 (o.looksAt ops) env.tmps, gs := (0, []), th := (fun _ _ => True, true) }) hr' hk hk0 (ob := ⟨z.map fun x => .d (.val x), e⟩) (vals := z) (rest := []) (by simp [hzz]) (RepVs.vals _) ?_
 simp only [RepV]
 exact ⟨hk, w.heap.size, w6 _ _ _, rfl⟩

def makeOwn (P : Program) (t : TypeId) (l c : V) (k : Nat) : Prop × Ob × V :=
 match l, c, C4 P t with
 | .d (.val (.int _ l)), .d (.val (.int _ c)), some e => match F3 P e with
  | some (s, bytes, [z]) => ((0 ≤ l ∧ l ≤ c ∧ c * bytes ≤ 140737488355328 ∧ c ≤ 140737488355328 ∧ s = 1), ⟨List.replicate l.toNat (.d (.val z)), e⟩, .own k 0 l.toNat 1)
  | _ => (False, ⟨[], 0⟩, .dead)
 | _, _, _ => (False, ⟨[], 0⟩, .dead)
theorem Makes.make {env : Env} {o : Oper} {t : TypeId} {l c : Operand} (ho : o.op = .makeSlice t l c) (hg : o.guard = none) {k : Nat} (hc : (makeOwn P t (ev env l) (ev env c) k).1) (hd : l5 env o.dst) (hk : k < env.objs.length) :
  Makes P ops o env.nt env.objs (get env.tmps) k (makeOwn P t (ev env l) (ev env c) k).2.1 (makeOwn P t (ev env l) (ev env c) k).2.2 := by
 unfold makeOwn at hc ⊢
 split at hc
 ·
  rename_i kl ln kc cn e hl hcc he
  have hu := o7 he
  split at hc
  ·
   rename_i s b z ht
   obtain ⟨h0, h1, h2, h2', rfl⟩ := hc
   refine ⟨A7 hd, hg, fun B w0 S0 φ a w hr hk0 => .inl ?_⟩
   have hr' := hr.keepRel
   obtain ⟨i, zv, hi, hs, hb, hz, hzz, hzs⟩ := tyOf_spec' ht
   have hmem : ∀ y, y = l ∨ y = c → y ∈ o.op.operands.toList := by
    intro y hy
    rw [ho]
    rcases hy with rfl | rfl <;> simp [Op.operands]
   have q1 : ev { env with tmps := G2 (o.looksAt ops) env.tmps, gs := (0, []), th := (fun _ _ => True, true) } l = ev env l := w7 l (hmem l (.inl rfl)) env
   have q2 : ev { env with tmps := G2 (o.looksAt ops) env.tmps, gs := (0, []), th := (fun _ _ => True, true) } c = ev env c := w7 c (hmem c (.inr rfl)) env
   have e1 := hr'.ev l
   have e2 := hr'.ev c
   rw [q1, hl] at e1
   rw [q2, hcc] at e2
   simp only [RepV, RepD] at e1 e2
   have hzv : zv.cells = #[z] := by
    apply Array.toList_inj.1; simpa using hzz
   have hcells : madeCells zv.cells (cn.toNat * 1) = Array.replicate cn.toNat z := by
    rw [hzv]
    apply Array.ext
    · simp [madeCells]
    ·
     intro j h1 h2
     simp [madeCells, Nat.mod_one]
   have hm := run_make (P := P) w t e i zv hu hi hz kl kc ln cn h0 h1 (by rw [hb, Int.mul_comm]; omega) (by omega)
   rw [hs, hcells] at hm
   refine ⟨.slice (some ⟨w.heap.size, 0, none⟩) ln.toNat cn.toNat, w.alloc (.cells (Array.replicate cn.toNat z) e), by simp [execOp, ho, e1, e2, hm], ?_⟩
   refine made_new (env := { env with tmps := G2 (o.looksAt ops) env.tmps, gs := (0, []), th := (fun _ _ => True, true) }) hr' hk hk0 (ob := ⟨List.replicate ln.toNat (.d (.val z)), e⟩) (vals := List.replicate ln.toNat z) (rest := List.replicate (cn.toNat - ln.toNat) z) ?_ (repVs_replicate (by simp [RepV, RepD]) _) ?_
   · rw [Array.toList_replicate, List.replicate_append_replicate]; congr 1; omega
   ·
    simp only [RepV]
    refine ⟨by omega, .inr ⟨w.heap.size, cn.toNat, _, e, w6 _ _ _, rfl, by omega, by simp only [maxLen]; omega, heap_alloc_new w _, by simp⟩⟩
  · exact hc.elim
 · exact hc.elim

theorem Makes.call {env : Env} {o : Oper} {fo : Operand} {xs : Array Operand} {ts : Array TypeId} (ho : o.op = .call { callee := .value fo, args := xs, argTypes := ts }) (hg : o.guard = none)
  {f : FuncId} {caps : List V} (hf : E0 (ev env fo) = some (f, caps)) {r : V} {ob : List D × TypeId} (hc : CallV P env f (xs.toList.map (ev env) ++ caps) r [ob]) (hd : l5 env o.dst) {k : Nat} (hk : k < env.objs.length) :
  Makes P ops o env.nt env.objs (get env.tmps) k (toOb ob) (r.shift k) := by
 refine ⟨A7 hd, hg, fun B w0 S0 φ a w hr hk0 => .inr ?_⟩
 have hr' := hr.keepRel
 have hmem : ∀ y, y = fo ∨ y ∈ xs.toList → y ∈ o.op.operands.toList := by
  intro y hy
  rw [ho]
  simp only [Op.operands, Call.operands, Array.toList_append, List.mem_append]
  rcases hy with rfl | hy
  · exact .inl (by simp)
  · exact .inr hy
 have e1 : ev { env with tmps := G2 (o.looksAt ops) env.tmps, gs := (0, []), th := (fun _ _ => True, true) } fo = ev env fo := w7 fo (hmem fo (.inl rfl)) env
 have e2 : xs.toList.map (ev { env with tmps := G2 (o.looksAt ops) env.tmps, gs := (0, []), th := (fun _ _ => True, true) }) = xs.toList.map (ev env) := List.map_congr_left fun y hy => w7 y (hmem y (.inr hy)) env
 have hcall : ∀ args w, (callFunc f args).run P w = .ok (.enter f args) w := by
  obtain ⟨k, _, h1, _⟩ := hc; exact h1.1
 obtain ⟨us, hex, hus⟩ := B9 hr' ho (by rw [e1]; exact hf) hcall
 rw [e2] at hus
 refine ⟨f, us.toArray, hex, ?_⟩
 -- what a result of its own is
 have fin : ∀ (S : Nat → Prop) w' v φr, ResRep w w' S φr r [ob] v → ((∀ b, S b → Imm B S0 φ env.objs.length b) ∨ cleanV r = true ∧ ob.1.all isValD = true) → Made B S0 φ env.objs.length k (toOb ob) (r.shift k) w v w' := by
  intro S w' v φr hres hS
  have hgr : Grows w w' := ⟨hres.below⟩
  have hnew : ∀ x, φr 0 = some x → w.heap.size ≤ x := fun x hx => hres.low 0 x (by simp) hx
  have hkeep : (∀ b, S b → Imm B S0 φ env.objs.length b) → Keeps w' (Imm w.heap.size S φr 1) w' (Imm B S0 (φnew φ k (φr 0)) env.objs.length) := by
   intro hS b o x hb hcell
   refine ⟨hcell, ?_, fun i hi => ?_⟩
   ·
    rcases hb.1 with hs | hs
    · exact (hS b hs).1
    · exact .inr (Nat.le_trans hr'.baseW hs)
   ·
    simp only [φnew]
    split
    · exact hb.2 0 (by omega)
    ·
     intro e'
     rcases hb.1 with hs | hs
     · exact (hS b hs).2 i hi e'
     · have := hr'.live_lt (i := i) hi e'; omega
  have ho : ∀ i, i < 1 → (φnew φ k (φr 0)) (i + k) = φr i := fun i hi => by
   have : i = 0 := by omega
   subst this; simp [φnew]
  refine ⟨hgr, φr 0, hnew, ?_, ?_⟩
  ·
   rcases hres.objs 0 ob rfl with ⟨h1, h2⟩ | ⟨g, cur, vals, rest, h1, h2, h3, h4⟩
   · exact .inl ⟨by rw [w6]; exact h1, h2⟩
   ·
    refine .inr ⟨g, cur, vals, rest, by rw [w6]; exact h1, h2, h3, ?_⟩
    rcases hS with hS | ⟨_, hcl⟩
    · exact (RepAll.mono (hkeep hS) _ _ (RepVs.repAll h4)).repVs
    · exact repVs_vals_clean hcl h4
  ·
   rcases hS with hS | ⟨hcl, _⟩
   · exact G1 (hkeep hS) (by omega) ho (fun g cur e hc => hc) r v hres.rep
   · exact G1 (S := Imm B S0 (φnew φ k (φr 0)) env.objs.length) (fun b o x hb hc => ⟨hc, hb⟩) (by omega) ho (fun g cur e hc => hc) r v (RepV.clean r v hcl hres.rep)
 obtain ⟨kk, hok, ⟨_, hcall⟩, hS⟩ := hc
 by_cases hd : (xs.toList.map (ev env) ++ caps).all noO = true
 ·
  have hrep : RepAll w (Imm B S0 φ env.objs.length) ((xs.toList.map (ev env) ++ caps).map (toD env.objs kk)) us := by
   refine l8 _ _ _ hus fun v hv u hvu => ?_
   exact noO_rep kk v u hvu (List.all_eq_true.1 hd v hv) (hok v hv)
  refine (hcall w _ us hr'.glob hrep).mono ?_
  rintro e w' ⟨v, φr, rfl, hres⟩
  exact ⟨v, rfl, fin _ _ _ _ hres (.inl fun b hb => hb)⟩
 ·
  have hrep : RepAll w (fun _ => True) ((xs.toList.map (ev env) ++ caps).map (toD env.objs kk)) us :=
   l8 _ _ _ hus fun v hv u hvu => toD_rep hr' (fun _ _ => trivial) (fun _ _ _ _ => trivial) kk v u hvu (hok v hv)
  refine (hcall w _ us hr'.glob.any hrep).mono ?_
  rintro e w' ⟨v, φr, rfl, hres⟩
  have := hS.resolve_left hd
  exact ⟨v, rfl, fin _ _ _ _ hres (.inr ⟨this.1, by simpa using this.2⟩)⟩

theorem Writes.store {env : Env} {o : Oper} {t : TypeId} {p v : Operand} (ho : o.op = .store t p v) (hd : o.dst = none) (hg : o.guard = none) {k off s b : Nat} {z : List Value} (hp : ev env p = .ptr k off) (ht : F3 P t = some (s, b, z)) {x : Ob}
  (hl : (r6 (ev env v)).length = s) (hle : off + s ≤ x.cells.length) (h1 : (r6 (ev env v)).all oneV = true) :
  Writes P ops o env.nt env.objs (get env.tmps) k x { x with cells := PW.setMany x.cells off (r6 (ev env v)) } := by
 refine ⟨hd, hg, fun B w0 S0 φ a w hr => ?_⟩
 have hr' := hr.keepRel
 have hmem : ∀ y, y = p ∨ y = v → y ∈ o.op.operands.toList := by
  intro y hy; rw [ho]; rcases hy with rfl | rfl <;> simp [Op.operands]
 have e1 : ev { env with tmps := G2 (o.looksAt ops) env.tmps, gs := (0, []), th := (fun _ _ => True, true) } p = ev env p := w7 p (hmem p (.inl rfl)) env
 have e2 : ev { env with tmps := G2 (o.looksAt ops) env.tmps, gs := (0, []), th := (fun _ _ => True, true) } v = ev env v := w7 v (hmem v (.inr rfl)) env
 have hpv := hr'.ev p
 rw [e1, hp] at hpv
 simp only [RepV] at hpv
 obtain ⟨hil, g, hgk, hpv⟩ := hpv
 refine ⟨by rw [hgk]; simp, fun hx => ?_⟩
 have hv' := hr'.ev v
 rw [e2] at hv'
 obtain ⟨hcv, hone⟩ := cellsV_rep hv' h1
 have hlen := RepVs.length _ _ hcv
 rcases hx with ⟨h0, _⟩ | ⟨g', cur, vals, rest, hg', hh, hcur, hv⟩
 · rw [hgk] at h0; cases h0
 rw [hgk] at hg'; cases hg'
 have hvl := RepVs.length _ _ hv
 have hcl : cur.size = vals.length + rest.length := by have := congrArg List.length hcur; simpa using this
 have hst := run_storeCells_at P g off x.e (a.eval v).cells.toList 0 cur w hh (by omega) hone
 simp only [Nat.add_zero] at hst
 have hsz : (a.eval v).cells.size = s := by rw [← hl, ← hlen]; simp
 have hnew : (cur.toList.take off ++ (a.eval v).cells.toList ++ cur.toList.drop (off + (a.eval v).cells.toList.length)) = PW.setMany vals off (a.eval v).cells.toList ++ rest := by
  rw [setMany_eq vals off _ (by omega), hcur, List.take_append_of_le_length (by omega), List.drop_append_of_le_length (by omega)]
  simp
 have hszc : cur.size = (cur.toList.take off ++ (a.eval v).cells.toList ++ cur.toList.drop (off + (a.eval v).cells.toList.length)).toArray.size := by
  rw [hnew]; simp [setMany_length]
  have := congrArg List.length hcur
  simpa using this
 refine ⟨w.setRow g (cur.toList.take off ++ (a.eval v).cells.toList ++ cur.toList.drop (off + (a.eval v).cells.toList.length)).toArray, by simp [execOp, ho, hpv, Instr.storeAt, Instr.sureAddr, storeVar, l6 ht, hsz, hst], g, cur, _, hgk, hh, hszc, rfl, ?_⟩
 have ht' : Turns w (Imm B S0 φ env.objs.length) φ env.objs.length (w.setRow g (cur.toList.take off ++ (a.eval v).cells.toList ++ cur.toList.drop (off + (a.eval v).cells.toList.length)).toArray) (Imm B S0 φ env.objs.length) φ env.objs.length (fun _ => False) := by
  refine ⟨fun b o y hb hx => ⟨?_, hb⟩, others_setRow _ hh, Nat.le_refl _, fun j hj _ => ⟨rfl, fun g' hg' cur' e' hh' => ?_⟩⟩
  · rw [cell_setRow _ (fun e => hb.2 k hil (by rw [e, hgk]))]; exact hx
  ·
   by_cases e : g' = g
   ·
    subst e
    rw [hh] at hh'; cases hh'
    exact ⟨_, setRow_heap w g' cur _ _ _ hh, hszc⟩
   · exact ⟨cur', (setRow_other w g g' _ e).trans hh', rfl⟩
 exact .inr ⟨g, _, PW.setMany vals off (a.eval v).cells.toList, rest, hgk, setRow_heap w g cur _ _ _ hh, by rw [List.toList_toArray, hnew], RepVs.mono ht' _ _ (hv.setMany off hcv)⟩

def memB : List Nat → Nat → Bool
 | j :: js, i => j == i || memB js i
 | [], _ => false
theorem memB_f {l : List Nat} {i : Nat} (h : memB l i = false) : i ∉ l := by
 induction l with
 | nil => simp
 | cons j js ih =>
  simp only [memB, Bool.or_eq_false_iff, beq_eq_false_iff_ne] at h
  intro hm
  rcases List.mem_cons.1 hm with rfl | hm
  · exact h.1 rfl
  · exact ih h.2 hm
def freshA (P : Program) (env : Env) (o : Oper) : Option (Prop × V) :=
 match o.op with
 | .buildSlice t n parts => match n, parts.toList, C4 P t with
  | 0, [], some e => match F3 P e with
   | some _ => some (True, .emp)
   | none => none
  | _, _, _ => none
 | .call c => match c.callee, c.argTypes.toList, c.args.toList with
  | .builtin .append, [t, t'], [s, x] => match ev env s, ev env x, C4 P t with
   | .emp, .d (.list n cells), some e => match F3 P e with
    | some (sz, bytes, _) => some (t' = t ∧ sz = 1 ∧ cells.length = n ∧ (cells.map V.d).all oneV = true ∧ n * bytes ≤ 140737488355328 ∧ n ≤ 140737488355328, .d (.list n cells))
    | none => none
   | _, _, _ => none
  | _, _, _ => none
 | _ => none
theorem freshA_congr {env env' : Env} {o : Oper} (h : ∀ x ∈ o.op.operands.toList, ev env x = ev env' x) : freshA P env o = freshA P env' o := by
 unfold freshA
 split
 · rfl
 ·
  rename_i c hc
  split
  ·
   rename_i t t' s x h1 h2 h3
   have hs := h s (by rw [hc]; simp [Op.operands, Call.operands, h3])
   have hx := h x (by rw [hc]; simp [Op.operands, Call.operands, h3])
   rw [hs, hx]
  · rfl
 · rfl
theorem repCells_vs {w : World} {S : Nat → Prop} {φ : Nat → Option Nat} {m : Nat} : ∀ (ds : List D) (us : List Value), RepVs w S φ m (ds.map .d) us → RepAll w S ds us
 | [], us, h => by simpa [RepVs, RepAll] using h
 | d :: ds, us, h => by
  simp only [List.map_cons, RepVs, RepV] at h
  obtain ⟨v, vs, rfl, h1, h2⟩ := h
  exact ⟨v, vs, rfl, h1, repCells_vs ds vs h2⟩
theorem freshA_sound {B : Nat} {w0 : World} {S0 : Nat → Prop} {φ : Nat → Option Nat} {env : Env} {a : Act} {w : World} (hr : Rel B w0 S0 φ env a w) {o : Oper} {c : Prop} {r : V} (hf : freshA P env o = some (c, r)) (hc : c) :
  ∃ v w', (execOp a.eval o).run P w = .ok (.value v) w' ∧ Grows w w' ∧ RepV w' (Imm B S0 φ env.objs.length) φ env.objs.length r v := by
 unfold freshA at hf
 split at hf
 ·
  rename_i t n parts hop
  split at hf
  ·
   rename_i e hp he
   split at hf
   ·
    rename_i q ht
    obtain ⟨s, b, z⟩ := q
    simp only [Option.some.injEq, Prod.mk.injEq] at hf
    obtain ⟨_, rfl⟩ := hf
    obtain ⟨cs', h1, h2, h3⟩ := buildSlice_exec hop hr he ht (by rw [hp]; simp [fillV]) (by omega)
    refine ⟨_, _, h1, Grows.alloc w _, ?_⟩
    simp only [RepV]
    exact ⟨_, rfl, .inr ⟨_, rfl⟩⟩
   · cases hf
  · cases hf
 ·
  rename_i cl hop
  split at hf
  ·
   rename_i t t' s x h1 h2 h3
   split at hf
   ·
    rename_i n cells e hs hx he
    have hu := o7 he
    split at hf
    ·
     rename_i sz bytes z ht
     simp only [Option.some.injEq, Prod.mk.injEq] at hf
     obtain ⟨rfl, rfl⟩ := hf
     obtain ⟨rfl, rfl, hlen, hone, hb, hm⟩ := hc
     have hop' : o.op = .call { callee := .builtin .append, args := #[s, x], argTypes := #[t', t'] } := by
      rw [hop]
      obtain ⟨ce, ar, at'⟩ := cl
      simp only at h1 h2 h3
      have e1 : ar = #[s, x] := by apply Array.toList_inj.1; simpa using h3
      have e2 : at' = #[t', t'] := by apply Array.toList_inj.1; simpa using h2
      rw [h1, e1, e2]
     have hex : ∀ (v : Value) (w' : World), (Builtin.append_ #[t', t'] o.type #[a.eval s, a.eval x]).run P w = .ok v w' → (execOp a.eval o).run P w = .ok (.value v) w' := by
      intro v w' h
      obtain ⟨cs, h1⟩ := n9 (a := a) hop'
      rw [h1]
      simp [builtin, h]
     obtain ⟨us, hul, hes, hsrc⟩ := appSrcF_sound (x := .d (.list n cells)) hr hu ht (by decide) (by rw [← hx]; exact hr.ev x) (t := t') (t' := t') (by simp [m6, srcF]; omega) (by simpa [m6, srcF] using hone) o.type
     obtain ⟨i, zv, hi, hsi, hbi, hz, hzz, hzs⟩ := tyOf_spec' ht
     have hsr := hsrc i zv hi hz hsi hbi hzz
     simp only [m6, srcF, if_true] at hul hes hsr
     have hsv := hr.ev s
     rw [hs] at hsv
     simp only [RepV] at hsv
     obtain ⟨base, hv, hbase⟩ := hsv
     have hall := repCells_vs _ _ hes
     by_cases hn : n = 0
     ·
      subst hn
      refine ⟨_, w, hex _ _ (by rw [hv]; exact hsr.atZero rfl _ _ _ (Nat.le_refl _)), Grows.refl w, ?_⟩
      simp only [RepV, RepD]
      exact ⟨_, _, rfl, Nat.le_refl _, .inl (List.eq_nil_of_length_eq_zero hlen)⟩
     ·
      have fin : ∀ (vals : Array Value), vals = #[] → Grows w (w.drew.alloc (.cells (vals ++ us.toArray ++ Builtin.zeroCells zv.cells (grownCap w n 0 e - n)) e)) ∧
        RepV (w.drew.alloc (.cells (vals ++ us.toArray ++ Builtin.zeroCells zv.cells (grownCap w n 0 e - n)) e)) (Imm B S0 φ env.objs.length) φ env.objs.length (.d (.list n cells)) (.slice (some ⟨w.heap.size, 0, none⟩) n (grownCap w n 0 e)) := by
       intro vals hvals
       subst hvals
       have hge := grownCap_ge w n 0 e
       have hgr : Grows w (w.drew.alloc (.cells (#[] ++ us.toArray ++ Builtin.zeroCells zv.cells (grownCap w n 0 e - n)) e)) := (Grows.drew w).trans (Grows.alloc w.drew _)
       refine ⟨hgr, ?_⟩
       have ht0 := hgr.turns0 hr
       simp only [RepV, RepD]
       refine ⟨_, _, rfl, hge, .inr ⟨w.heap.size, 0, rfl, ?_⟩⟩
       have h4 := repCells_vs _ _ (RepVs.mono ht0 _ _ hes)
       refine F0 ⟨.inr hr.baseW, fun i hi e => ?_⟩ h4 fun j u hu => ?_
       · have := hr.live_lt hi e; omega
       ·
        rw [p4 (g := w.heap.size) (e := e) (fr := (0, 0)) (heap_alloc_new w.drew _), Nat.zero_add]
        rw [← Array.getElem?_toList]
        simp only [Array.toList_append, List.append_assoc]
        rw [List.nil_append, List.getElem?_append_left ((List.getElem?_eq_some_iff.1 hu).1)]
        exact hu
      rcases hbase with rfl | ⟨g, rfl⟩
      ·
       have h := hsr.atNil hn hm (by rw [hbi]; exact hb)
       have := fin #[] rfl
       simp only [Array.empty_append] at this
       exact ⟨_, _, hex _ _ (by rw [hv]; exact h), this.1, this.2⟩
      ·
       have h := hsr.atGrow hn g 0 0 [] (by simp) (fun j u hu => by simp at hu) (by omega) (by omega) (by rw [hbi, Nat.zero_add]; exact hb)
       have := fin #[] rfl
       simp only [Nat.zero_add] at h
       exact ⟨_, _, hex _ _ (by rw [hv]; exact h), this.1, this.2⟩
    · cases hf
   · cases hf
  · cases hf
 · cases hf
theorem Yields.fresh {env : Env} {o : Oper} (hg : o.guard = none) {c : Prop} {r : V} (hf : freshA P env o = some (c, r)) (hc : c) (hd : l5 env o.dst) : Yields P ops o env.nt env.objs (get env.tmps) r := by
 refine ⟨A7 hd, fun B w0 S0 φ a w hr => .inl ⟨k7 hg _, .inl ?_⟩⟩
 have hr' : Rel B w0 S0 φ { env with tmps := G2 (o.looksAt ops) env.tmps, gs := (0, []), th := (fun _ _ => True, true) } a w := RelF.toRel (by simpa [q3] using hr)
 have e := freshA_congr (P := P) (o := o) (env := { env with tmps := G2 (o.looksAt ops) env.tmps, gs := (0, []), th := (fun _ _ => True, true) }) (env' := env) (fun x hx => w7 x hx env)
 exact freshA_sound (P := P) hr' (o := o) (by rw [e]; exact hf) hc
def headB : List Nat → Nat → Bool
 | j :: _, i => j == i
 | [], _ => false
theorem headB_t {own : List Nat} {i : Nat} (h : headB own i = true) : own.head? = some i := by
 cases own with
 | nil => simp [headB] at h
 | cons j l => simpa [headB] using h
theorem headB_f {own : List Nat} {i : Nat} (h : ¬ headB own i = true) : own.head? ≠ some i := by
 cases own with
 | nil => simp
 | cons j l => simpa [headB] using h
def preO (P : Program) (ds : List (Option Nat)) (n0 : Nat) (es : List TypeId) : List Oper → Nat → List Nat → List Nat → Env → List Ob → Prop × Env × List Oper × Nat × List Nat × List Nat × List Ob
 | [], i, own, wd, env, acc => (True, env, [], i, own, wd, acc)
 | o :: rest, i, own, wd, env, acc =>
  if isCallB o then (True, env, o :: rest, i, own, wd, acc) else
  if headB own i then
   match o.op, o.guard with
   | .alloc e, none => match F3 P e with
    | some (_, _, z) => match preO P ds n0 es rest (i + 1) own.tail wd (putO env o.dst (.ptr (n0 + acc.length) 0)) (acc ++ [⟨z.map fun x => .d (.val x), e⟩]) with
     | (c', env'', l, i', own', wd', acc') => ((es[acc.length]? = some e ∧ n0 + acc.length < env.objs.length ∧ l5 env o.dst) ∧ c', env'', l, i', own', wd', acc')
    | none => (False, env, [], i, own, wd, acc)
   | .makeSlice t l c, none => match preO P ds n0 es rest (i + 1) own.tail wd (putO env o.dst (makeOwn P t (ev env l) (ev env c) (n0 + acc.length)).2.2) (acc ++ [(makeOwn P t (ev env l) (ev env c) (n0 + acc.length)).2.1]) with
    | (c', env'', l', i', own', wd', acc') => ((es[acc.length]? = some (makeOwn P t (ev env l) (ev env c) (n0 + acc.length)).2.1.e ∧ n0 + acc.length < env.objs.length ∧ l5 env o.dst ∧ (makeOwn P t (ev env l) (ev env c) (n0 + acc.length)).1) ∧ c', env'', l', i', own', wd', acc')
   | _, _ => (False, env, [], i, own, wd, acc)
  else match o.guard with
  | none => match o.op with
   | .store t p v => match ev env p, F3 P t with
    | .ptr k off, some (s, _, _) => match acc[k - n0]? with
     | some x => match preO P ds n0 es rest (i + 1) own ((k - n0) :: wd) env (acc.set (k - n0) { x with cells := PW.setMany x.cells off (r6 (ev env v)) }) with
      | (c', env'', l, i', own', wd', acc') => ((o.dst = none ∧ n0 ≤ k ∧ memB wd (k - n0) = false ∧ (r6 (ev env v)).length = s ∧ off + s ≤ x.cells.length ∧ (r6 (ev env v)).all oneV = true) ∧ c', env'', l, i', own', wd', acc')
     | none => (False, env, [], i, own, wd, acc)
    | _, _ => (False, env, [], i, own, wd, acc)
   | _ => match freshA P env o with
   | some (c, r) => match preO P ds n0 es rest (i + 1) own wd (putO env o.dst r) acc with
    | (c', env'', l, i', own', wd', acc') => ((c ∧ l5 env o.dst) ∧ c', env'', l, i', own', wd', acc')
   | none => match u3 P env o with
   | (c, r) => match preO P ds n0 es rest (i + 1) own wd (putO env o.dst r) acc with
    | (c', env'', l, i', own', wd', acc') => ((c ∧ l5 env o.dst) ∧ c', env'', l, i', own', wd', acc')
  | some gd => match u7 ds env.tmps (some gd) with
   | none => (False, env, [], i, own, wd, acc)
   | some g => match u3 P (env.under g) o with
    | (c, r) => match preO P ds n0 es rest (i + 1) own wd (putO env o.dst (.guarded g r)) acc with
     | (c', env'', l, i', own', wd', acc') => (((g = true → c) ∧ l5 env o.dst) ∧ c', env'', l, i', own', wd', acc')

theorem FWO.yields {n0 : Nat} {es : List TypeId} {env : Env} {K : Env → List Ob → Prop} {o : Oper} {l : List Oper} {i : Nat} {own wd : List Nat} {acc : List Ob} (hown : own.head? ≠ some i) {r : V}
  (hy : Yields P ops o env.nt env.objs (get env.tmps) r) (h : FWO P ops n0 es l (i + 1) own wd (putO env o.dst r) acc K) : FWO P ops n0 es (o :: l) i own wd env acc K := by
 cases own with
 | nil => exact .inl ⟨r, hy, h⟩
 | cons j own' =>
  have : j ≠ i := fun e => hown (by simp [e])
  simp only [FWO, if_neg this]
  exact .inl ⟨r, hy, h⟩

theorem FWO.makes {n0 : Nat} {es : List TypeId} {env : Env} {K : Env → List Ob → Prop} {o : Oper} {l : List Oper} {i : Nat} {own wd : List Nat} {acc : List Ob} (hown : own.head? = some i) {ob : Ob} {r : V} (he : es[acc.length]? = some ob.e)
  (hy : Makes P ops o env.nt env.objs (get env.tmps) (n0 + acc.length) ob r) (h : FWO P ops n0 es l (i + 1) own.tail wd (putO env o.dst r) (acc ++ [ob]) K) : FWO P ops n0 es (o :: l) i own wd env acc K := by
 cases own with
 | nil => simp at hown
 | cons j own' =>
  have : j = i := by simpa using hown
  simp only [FWO, if_pos this]
  exact .inl ⟨ob, r, he, hy, h⟩

theorem FWO.writes {n0 : Nat} {es : List TypeId} {env : Env} {K : Env → List Ob → Prop} {o : Oper} {l : List Oper} {i c : Nat} {own wd : List Nat} {acc : List Ob} (hown : own.head? ≠ some i) {x y : Ob} (hc : acc[c]? = some x) (hw : c ∉ wd) (he : x.e = y.e)
  (hy : Writes P ops o env.nt env.objs (get env.tmps) (n0 + c) x y) (h : FWO P ops n0 es l (i + 1) own (c :: wd) env (acc.set c y) K) : FWO P ops n0 es (o :: l) i own wd env acc K := by
 unfold FWO
 exact .inr ⟨hown, c, x, y, hc, hw, he, hy, h⟩

theorem FWO.pre {n0 : Nat} {es : List TypeId} {K : Env → List Ob → Prop} : ∀ (l : List Oper) (i : Nat) (own wd : List Nat) (env : Env) (acc : List Ob), (preO P (ops.toList.map (·.dst)) n0 es l i own wd env acc).1 →
  (match preO P (ops.toList.map (·.dst)) n0 es l i own wd env acc with | (_, env', l', i', own', wd', acc') => FWO P ops n0 es l' i' own' wd' env' acc' K) → FWO P ops n0 es l i own wd env acc K
 | [], _, _, _, _, _, _, h => h
 | o :: rest, i, own, wd, env, acc, hc, h => by
  unfold preO at hc h
  split at hc
  · rename_i hcall; rw [if_pos hcall] at h; exact h
  ·
   rename_i hcall
   rw [if_neg hcall] at h
   split at hc
   ·
    rename_i hown
    rw [if_pos hown] at h
    split at hc
    ·
     rename_i e ho hg
     simp only [ho, hg] at h
     split at hc
     ·
      rename_i s b z ht
      simp only [ht] at h
      exact FWO.makes (headB_t hown) hc.1.1 (Makes.alloc ho hg ht hc.1.2.2 hc.1.2.1) (FWO.pre rest _ _ _ _ _ hc.2 h)
     · exact hc.elim
    ·
     rename_i t l c ho hg
     simp only [ho, hg] at h
     exact FWO.makes (headB_t hown) hc.1.1 (Makes.make ho hg hc.1.2.2.2 hc.1.2.2.1 hc.1.2.1) (FWO.pre rest _ _ _ _ _ hc.2 h)
    · exact hc.elim
   ·
    rename_i hown
    rw [if_neg hown] at h
    split at hc
    ·
     rename_i hg
     simp only [hg] at h
     split at hc
     ·
      rename_i t p v ho
      simp only [ho] at h
      split at hc
      ·
       rename_i k off s b z hp ht
       simp only [hp, ht] at h
       split at hc
       ·
        rename_i x hx
        simp only [hx] at h
        obtain ⟨⟨hd, hk, hw, hl, hle, h1⟩, hc'⟩ := hc
        exact FWO.writes (y := { x with cells := PW.setMany x.cells off (r6 (ev env v)) }) (headB_f hown) hx (memB_f hw) rfl (by rw [show n0 + (k - n0) = k by omega]; exact Writes.store ho hd hg hp ht hl hle h1) (FWO.pre rest _ _ _ _ _ hc' h)
       · exact hc.elim
      · exact hc.elim
     ·
      rename_i hno
      split at h
      · rename_i ho; exact absurd ho (hno _ _ _)
      ·
       split at hc
       ·
        rename_i c r hf
        simp only [hf] at h
        exact FWO.yields (headB_f hown) (Yields.fresh hg hf hc.1.1 hc.1.2) (FWO.pre rest _ _ _ _ _ hc.2 h)
       ·
        rename_i hf
        simp only [hf] at h
        exact FWO.yields (headB_f hown) (Yields.pure hg hc.1.1 hc.1.2) (FWO.pre rest _ _ _ _ _ hc.2 h)
    ·
     rename_i gd hg
     simp only [hg] at h
     split at hc
     · exact hc.elim
     ·
      rename_i g hgc
      simp only [hgc] at h
      obtain ⟨⟨hcg, hd⟩, hc'⟩ := hc
      exact FWO.yields (headB_f hown) (Yields.pureG hg hgc hcg hd) (FWO.pre rest _ _ _ _ _ hc' h)

theorem FWO.run {n0 : Nat} {es : List TypeId} {env : Env} {K : Env → List Ob → Prop} {l : List Oper} {i : Nat} {own wd : List Nat} {acc : List Ob}
  (h : match preO P (ops.toList.map (·.dst)) n0 es l i own wd env acc with | (c, env', l', i', own', wd', acc') => c ∧ FWO P ops n0 es l' i' own' wd' env' acc' K) : FWO P ops n0 es l i own wd env acc K :=
 FWO.pre l i own wd env acc h.1 h.2
theorem FWO.nil {n0 : Nat} {es : List TypeId} {env : Env} {K : Env → List Ob → Prop} {i : Nat} {wd : List Nat} {acc : List Ob} (h : K env acc) : FWO P ops n0 es [] i [] wd env acc K := ⟨rfl, h⟩

theorem FWO.call' {n0 : Nat} {es : List TypeId} {env : Env} {K : Env → List Ob → Prop} {o : Oper} {rest : List Oper} {i : Nat} {own wd : List Nat} {acc : List Ob} {fo : Operand} {xs : Array Operand} {ts : Array TypeId} {f : FuncId} {caps vs : List V} {ds : List D} {x : D} (k : Nat)
  (hown : own.head? ≠ some i) (ho : o.op = .call { callee := .value fo, args := xs, argTypes := ts }) (hg : o.guard = none) (hf : E0 (ev env fo) = some (f, caps)) (hvs : xs.toList.map (ev env) ++ caps = vs)
  (hds : vs.map (toD env.objs k) = ds) (hcall : CallOK P f ds (.d x) []) (hok : ∀ v ∈ vs, okD env.objs k v) (hcl : vs.all noO = true ∨ cleanV (.d x) = true) (hd : l5 env o.dst)
  (h : FWO P ops n0 es rest (i + 1) own wd (putO env o.dst (.d x)) acc K) : FWO P ops n0 es (o :: rest) i own wd env acc K := by
 obtain ⟨r, hy, hk⟩ := o2 (P := P) (ops := ops) (rest := []) (K := fun e => e = putO env o.dst (.d x)) k ho hg hf hvs hds hcall hok hcl hd rfl
 have hk : putO env o.dst r = putO env o.dst (.d x) := hk
 exact FWO.yields hown hy (by rw [hk]; exact h)

theorem FWO.callO {n0 : Nat} {es : List TypeId} {env : Env} {K : Env → List Ob → Prop} {o : Oper} {rest : List Oper} {i : Nat} {own wd : List Nat} {acc : List Ob} {fo : Operand} {xs : Array Operand} {ts : Array TypeId} {f : FuncId} {caps vs : List V} {ds : List D} {r : V} {ob : List D × TypeId} (k : Nat)
  (hown : own.head? = some i) (he : es[acc.length]? = some ob.2) (hk : n0 + acc.length < env.objs.length) (ho : o.op = .call { callee := .value fo, args := xs, argTypes := ts }) (hg : o.guard = none) (hf : E0 (ev env fo) = some (f, caps)) (hvs : xs.toList.map (ev env) ++ caps = vs)
  (hds : vs.map (toD env.objs k) = ds) (hcall : CallOK P f ds r [ob]) (hok : ∀ v ∈ vs, okD env.objs k v) (hcl : vs.all noO = true ∨ cleanV r = true ∧ [ob].all (fun ob => ob.1.all isValD) = true) (hd : l5 env o.dst)
  (h : FWO P ops n0 es rest (i + 1) own.tail wd (putO env o.dst (r.shift (n0 + acc.length))) (acc ++ [toOb ob]) K) : FWO P ops n0 es (o :: rest) i own wd env acc K := by
 subst hvs; subst hds
 exact FWO.makes hown he (Makes.call ho hg hf ⟨k, hok, hcall, hcl⟩ hd hk) h
end
attribute [go_sem] freshA preO memB makeD makeOwn headB List.tail_cons List.tail_nil
end Go.PW
