import Derived.Test.YtbndgoeahoadlaaGreatDoorPwF3
set_option linter.all false
namespace Go.PW
open Go.RowKit
theorem CallM.of_PW0 {P : Program} {f : FuncId} {fn : Func} {c : Code} {args : List V} {objs objs' : List Ob} {r : V} {rs : List ResultVar} {nt : Nat} (hf : P.funcs[f]? = some fn) (hb : fn.body = some c) (hrs : fn.results.toList = rs) (hnt : fn.ntmps = nt)
  (hcall : ∀ args w, (callFunc f args).run P w = .ok (.enter f args) w) (h : ∀ gs p, PW none P c (EndsM P rs r objs' (objs.length, gs) p) (startM nt args objs gs p)) : CallM P f args objs r objs' [] := by
 refine CallM.of_PW hf hb hrs hnt hcall fun gs p => ?_
 have hid : (gs.map fun x => (k9 [] x.1, x.2)) = gs := by
  conv => rhs; rw [← List.map_id gs]
  exact List.map_congr_left fun x _ => rfl
 rw [hid]
 exact h gs p
section
variable {P : Program} {ops : Array Oper} {nt g1 : Nat} {os : Nat → List Ob} {κ : Nat → V → V} {cs : List Nat}

def Eff (P : Program) (ops : Array Oper) (nt g1 : Nat) (o0 o1 : List Ob) (kk : V → V) (i : Nat) (o : Oper) (f : Nat → V) (r : V) : Prop :=
 okD' nt o.dst ∧ ∀ ro B w0 S0 φ gs th ff a w (Q' : Exit → Act → World → Prop) (next : Act → World → Prop), RelF B w0 S0 φ nt o0 gs th ff a w → only (o.looksAt ops) ff = only (o.looksAt ops) f → (∀ t, nt ≤ t → ff t = .dead) → gs.1 = g1 →
  (∀ φ' a' w', RelF B w0 S0 φ' nt o1 gs th (putF (fun t => kk (ff t)) o.dst r) a' w' → next a' w') → wpOpIn (Fd ro) 1 P ops Q' i next a w

def YB (P : Program) (ops : Array Oper) (nt g1 : Nat) (os : Nat → List Ob) (κ : Nat → V → V) (cs : List Nat) (i : Nat) (o : Oper) (f : Nat → V) (r : V) : Prop :=
 match cs.idxOf? i with
 | some k => (∀ (j : Nat) oj, ops[j]? = some oj → j ≠ i → (∀ e ∈ oj.after, Region.binds .any e = true → e.on ≠ i) → (∀ e ∈ o.after, Region.binds .any e = true → e.on ≠ j) → ∀ t, (oj.looksAt ops).contains t = true → κ k (f t) = f t) ∧ Eff P ops nt g1 (os k) (os (k + 1)) (κ k) i o f r
 | none => (okD' nt o.dst ∧ ∀ (q c : Nat) oc, cs[q]? = some c → ops[c]? = some oc → (∀ e ∈ oc.after, Region.binds .any e = true → e.on ≠ i) → (∀ e ∈ o.after, Region.binds .any e = true → e.on ≠ c) → κ q r = r ∧ ∀ t, (o.looksAt ops).contains t = true → κ q (f t) = f t) ∧ ∀ j, j ≤ cs.length → (∀ k e, e ∈ o.after → Region.binds .any e = true → cs[k]? = some e.on → k < j) → (∀ k c oc e, cs[k]? = some c → ops[c]? = some oc → e ∈ oc.after → Region.binds .any e = true → e.on = i → j ≤ k) → Yields P ops o nt (os j) f r

theorem only_get {L : List Nat} {f f' : Nat → V} (h : only L f = only L f') {t : Nat} (ht : L.contains t = true) : f t = f' t := by
 have := congrFun h t
 simpa only [only, ht, if_true] using this
theorem only_of {L : List Nat} {f f' : Nat → V} (h : ∀ t, L.contains t = true → f t = f' t) : only L f = only L f' := by
 funext t
 simp only [only]
 split
 · rename_i ht; exact h t ht
 · rfl
theorem YB.dst {i : Nat} {o : Oper} {f : Nat → V} {r : V} (h : YB P ops nt g1 os κ cs i o f r) : okD' nt o.dst := by
 unfold YB at h
 split at h
 · exact h.2.1
 · exact h.1.1
theorem YB.localN {i : Nat} {o : Oper} {f f' : Nat → V} {r : V} (hn : cs.idxOf? i = none) (h : YB P ops nt g1 os κ cs i o f r) (he : only (o.looksAt ops) f = only (o.looksAt ops) f') : YB P ops nt g1 os κ cs i o f' r := by
 unfold YB at *
 rw [hn] at h ⊢
 refine ⟨⟨h.1.1, fun q c oc h1 h2 h3 h4 => ⟨(h.1.2 q c oc h1 h2 h3 h4).1, fun t ht => by rw [← only_get he ht]; exact (h.1.2 q c oc h1 h2 h3 h4).2 t ht⟩⟩, fun j hj hd hu => ?_⟩
 have := h.2 j hj hd hu
 unfold Yields at this ⊢
 rwa [he] at this
theorem YB.localE {i q : Nat} {o : Oper} {f f' : Nat → V} {r : V} (hn : cs.idxOf? i = some q) (h : YB P ops nt g1 os κ cs i o f r) (he : only (o.looksAt ops) f = only (o.looksAt ops) f')
  (hk : ∀ t, κ q (f t) = f t → κ q (f' t) = f' t) : YB P ops nt g1 os κ cs i o f' r := by
 unfold YB at *
 rw [hn] at h ⊢
 exact ⟨fun j oj h1 h2 h3 h4 t ht => hk t (h.1 j oj h1 h2 h3 h4 t ht), h.2.1, fun ro B w0 S0 φ gs th ff a w Q' next h1 h2 => h.2.2 ro B w0 S0 φ gs th ff a w Q' next h1 (h2.trans he.symm)⟩
def q8 (κ : Nat → V → V) (cs : List Nat) (i : Nat) (o : Oper) (f : Nat → V) (r : V) : Nat → V :=
 match cs.idxOf? i with
 | some q => putF (fun t => κ q (f t)) o.dst r
 | none => putF f o.dst r

def aOpX (P : Program) (ops : Array Oper) (nt g1 : Nat) (os : Nat → List Ob) (κ : Nat → V → V) (cs : List Nat) (i : Nat) (K : (Nat → V) → Prop) (f : Nat → V) : Prop :=
 match ops[i]? with
 | none => K f
 | some o => ∃ r, YB P ops nt g1 os κ cs i o f r ∧ K (q8 κ cs i o f r)
def aAnyX (P : Program) (ops : Array Oper) (nt g1 : Nat) (os : Nat → List Ob) (κ : Nat → V → V) (cs : List Nat) (n : Nat) (L : Array Bool → (Nat → V) → Prop) : Nat → Array Bool → (Nat → V) → Prop
 | 0, listed, f => L listed f
 | k + 1, listed, f => Region.ready .any ops listed ≠ [] ∧ ∀ i ∈ Region.ready .any ops listed, i < n ∧ aOpX P ops nt g1 os κ cs i (aAnyX P ops nt g1 os κ cs n L k (listed.setIfInBounds i true)) f

theorem putF_map {d : Option Nat} {r : V} {f : Nat → V} {g : V → V} (h : g r = r) : (fun t => g (putF f d r t)) = putF (fun t => g (f t)) d r := by
 cases d with
 | none => rfl
 | some d =>
  funext t
  simp only [putF]
  split
  · exact h
  · rfl
theorem idx_one {i k q : Nat} (h : cs.Pairwise (· < ·)) (h1 : cs[k]? = some i) (h2 : cs[q]? = some i) : k = q := by
 obtain ⟨a1, a2⟩ := List.getElem?_eq_some_iff.1 h1
 obtain ⟨b1, b2⟩ := List.getElem?_eq_some_iff.1 h2
 have hp := List.pairwise_iff_getElem.1 h
 rcases Nat.lt_trichotomy k q with hk | hk | hk
 · have := hp k q a1 b1 hk; omega
 · exact hk
 · have := hp q k b1 a1 hk; omega
theorem idxOf_spec {i k : Nat} (h : cs.idxOf? i = some k) : cs[k]? = some i := by
 rw [List.idxOf?, List.findIdx?_eq_some_iff_getElem] at h
 obtain ⟨h1, h2, _⟩ := h
 rw [List.getElem?_eq_getElem h1]
 simpa using h2
theorem idxOf_none {i : Nat} (h : cs.idxOf? i = none) : ∀ k : Nat, cs[k]? ≠ some i := by
 intro k hk
 have hm : i ∈ cs := List.mem_of_getElem? hk
 rw [List.idxOf?, List.findIdx?_eq_none_iff] at h
 have := h i hm
 simp at this
theorem aOpX_put {i j : Nat} {oi oj : Oper} {f : Nat → V} {r : V} (hi : ops[i]? = some oi) (hj : ops[j]? = some oj) (hne : j ≠ i) (hap : oi.apart ops oj = true) (hij : ∀ e ∈ oi.after, Region.binds .any e = true → e.on ≠ j) (hji : ∀ e ∈ oj.after, Region.binds .any e = true → e.on ≠ i)
  (hnb : cs.idxOf? i = none ∨ cs.idxOf? j = none) (hkd : ∀ q, κ q .dead = .dead) (hdd : ∀ t, oi.dst = some t → f t = .dead) {K : (Nat → V) → Prop} (hy : YB P ops nt g1 os κ cs i oi f r) (h : aOpX P ops nt g1 os κ cs j K (q8 κ cs i oi f r)) :
  aOpX P ops nt g1 os κ cs j (fun f' => YB P ops nt g1 os κ cs i oi f' r ∧ K (q8 κ cs i oi f' r)) f := by
 obtain ⟨h1, h2⟩ := apart_dst hap
 unfold aOpX at h ⊢
 simp only [hj] at h ⊢
 obtain ⟨s, hs, hK⟩ := h
 cases hqi : cs.idxOf? i with
 | none =>
  have e1 : ∀ f, q8 κ cs i oi f r = putF f oi.dst r := fun f => by unfold q8; rw [hqi]
  rw [e1] at hs hK
  cases hqj : cs.idxOf? j with
  | none =>
   have e2 : ∀ f, q8 κ cs j oj f s = putF f oj.dst s := fun f => by unfold q8; rw [hqj]
   refine ⟨s, hs.localN hqj (only_put fun t ht => (h1 t ht).1), ?_, ?_⟩
   · rw [e2]; exact hy.localN hqi (only_put fun t ht => h2 t ht).symm
   · rw [e1, e2]; rw [e2] at hK; rwa [putF_comm fun t ht => fun e => (h1 t e).2 ht]
  | some q =>
   have e2 : ∀ f, q8 κ cs j oj f s = putF (fun t => κ q (f t)) oj.dst s := fun f => by unfold q8; rw [hqj]
   have hcond : κ q r = r ∧ ∀ t, (oi.looksAt ops).contains t = true → κ q (f t) = f t := by
    have := hy
    unfold YB at this
    rw [hqi] at this
    exact this.1.2 q j oj (idxOf_spec hqj) hj hji hij
   have hs2 : YB P ops nt g1 os κ cs j oj f s := by
    unfold YB at hs ⊢
    rw [hqj] at hs ⊢
    refine ⟨fun k ok hk hkj hka hkb t ht => ?_, hs.2.1, fun ro B w0 S0 φ gs th ff a w Q' next h3 h4 => hs.2.2 ro B w0 S0 φ gs th ff a w Q' next h3 (h4.trans (only_put fun t ht => (h1 t ht).1).symm)⟩
    by_cases hki : k = i
    ·
     subst hki
     rw [hi] at hk; cases hk
     exact hcond.2 t ht
    ·
     have h5 := hs.1 k ok hk hkj hka hkb t ht
     by_cases hd : oi.dst = some t
     ·
      -- the slot that i fills: what it held is not looked at
      rw [hdd t hd]; exact hkd q
     ·
      have e : putF f oi.dst r t = f t := by
       cases hdd : oi.dst with
       | none => rfl
       | some d => simp only [putF]; rw [if_neg (by rintro rfl; exact hd hdd)]
      rw [e] at h5; exact h5
   refine ⟨s, hs2, ?_, ?_⟩
   ·
    rw [e2]
    refine hy.localN hqi ?_
    rw [only_put fun t ht => h2 t ht]
    exact only_of fun t ht => (hcond.2 t ht).symm
   ·
    rw [e1, e2]
    rw [e2, putF_map hcond.1] at hK
    rwa [putF_comm fun t ht => fun e => (h1 t e).2 ht]
 | some q =>
  have hqj : cs.idxOf? j = none := hnb.resolve_left (by rw [hqi]; simp)
  have e1 : ∀ f, q8 κ cs i oi f r = putF (fun t => κ q (f t)) oi.dst r := fun f => by unfold q8; rw [hqi]
  have e2 : ∀ f, q8 κ cs j oj f s = putF f oj.dst s := fun f => by unfold q8; rw [hqj]
  rw [e1] at hs hK
  have hself : ∀ t, (oj.looksAt ops).contains t = true → κ q (f t) = f t := by
   have := hy
   unfold YB at this
   rw [hqi] at this
   exact this.1 j oj hj hne hji hij
  have hs1 := hs.localN hqj (only_put fun t ht => (h1 t ht).1)
  have hs2 := hs1.localN hqj (only_of (f' := f) fun t ht => hself t ht)
  have hks : κ q s = s := by
   have := hs
   unfold YB at this
   rw [hqj] at this
   exact (this.1.2 q i oi (idxOf_spec hqi) hi hij hji).1
  refine ⟨s, hs2, ?_, ?_⟩
  ·
   rw [e2]
   refine hy.localE hqi (only_put fun t ht => h2 t ht).symm fun t ht => ?_
   cases hdd : oj.dst with
   | none => simpa [putF] using ht
   | some d =>
    simp only [putF]
    split
    · exact hks
    · exact ht
  · rw [e1, e2, putF_map hks]; rw [e2] at hK; rwa [putF_comm fun t ht => fun e => (h1 t e).2 ht]

theorem putF_slot {f : Nat → V} {d : Option Nat} {r : V} {t : Nat} (hf : f t = .dead) (hne : d ≠ some t) : putF f d r t = .dead := by
 cases d with
 | none => exact hf
 | some d => simp only [putF]; rw [if_neg (by rintro rfl; exact hne rfl)]; exact hf
theorem behindX_slot {i : Nat} {o : Oper} {f : Nat → V} {r : V} {t : Nat} (hf : f t = .dead) (hne : o.dst ≠ some t) (hkd : ∀ q, κ q .dead = .dead) : q8 κ cs i o f r t = .dead := by
 cases hq : cs.idxOf? i with
 | none => simp only [q8, hq]; exact putF_slot hf hne
 | some q => simp only [q8, hq]; exact putF_slot (by show κ q (f t) = .dead; rw [hf]; exact hkd q) hne
theorem behindX_dead {i : Nat} {o : Oper} {f : Nat → V} {r : V} (hd : ∀ t, nt ≤ t → f t = .dead) (ho : okD' nt o.dst) (hkd : ∀ q, κ q .dead = .dead) : ∀ t, nt ≤ t → q8 κ cs i o f r t = .dead := by
 intro t ht
 refine behindX_slot (hd t ht) (fun e => ?_) hkd
 rw [e] at ho
 simp only [okD'] at ho
 omega
def chained (ops : Array Oper) (cs : List Nat) : Prop := cs.Pairwise (· < ·) ∧ ∀ k i i', cs[k]? = some i → cs[k + 1]? = some i' → ∀ o, ops[i']? = some o → ∃ e ∈ o.after, Region.binds .any e = true ∧ e.on = i
theorem aAnyX_first {n i : Nat} {oi : Oper} {r : V} {L : Array Bool → (Nat → V) → Prop} (hi : ops[i]? = some oi)
  (hs : Region.sinkB .any ops n = true) (hc : Region.chainB .any ops n = true) (hn : n < ops.size) (hin : i < n) (hch : chained ops cs) (hkd : ∀ q, κ q .dead = .dead)
  (hdone : ∀ listed f, L listed f → ∀ j ∈ Region.ready .any ops listed, n ≤ j) :
  ∀ (k : Nat) (listed : Array Bool) (f : Nat → V), HeadInv .any ops n listed → (∀ q c : Nat, cs[q]? = some c → (∃ q' : Nat, q' < q ∧ ∃ c', cs[q']? = some c' ∧ listed.getD c' false = false) → listed.getD c false = false ∧ c ∉ Region.ready .any ops listed) →
   (∀ j oj, ops[j]? = some oj → j ≠ i → listed.getD j true = false → (∀ e ∈ oj.after, Region.binds .any e = true → e.on ≠ i) → oi.apart ops oj = true) →
   (∀ t, oi.dst = some t → f t = .dead) →
   i ∈ Region.ready .any ops listed → YB P ops nt g1 os κ cs i oi f r →
   aAnyX P ops nt g1 os κ cs n L k (listed.setIfInBounds i true) (q8 κ cs i oi f r) → aAnyX P ops nt g1 os κ cs n L (k + 1) listed f := by
 intro k
 have put : ∀ (f : Nat → V) (K : (Nat → V) → Prop), YB P ops nt g1 os κ cs i oi f r → K (q8 κ cs i oi f r) → aOpX P ops nt g1 os κ cs i K f := by
  intro f K hy hK; unfold aOpX; simp only [hi]; exact ⟨r, hy, hK⟩
 induction k with
 | zero =>
  intro listed f inv _ _ _ hr hy H
  have hun := (mem_ready.1 hr).1
  refine ⟨fun h => (by rw [h] at hr; cases hr), fun j hj => ?_⟩
  have hjn : j < n := by
   rcases Nat.lt_or_ge j n with h | h
   · exact h
   · exact absurd hj (tail_waits hs hc hn inv _ i rfl hin hun j h)
  refine ⟨hjn, ?_⟩
  by_cases hji : j = i
  · subst hji; exact put _ _ hy H
  ·
   have := hdone _ _ H j (ready_mono hj hji)
   omega
 | succ k ih =>
  intro listed f inv hord hfree hdd hr hy H
  have hun := (mem_ready.1 hr).1
  refine ⟨fun h => (by rw [h] at hr; cases hr), fun j hj => ?_⟩
  have hjn : j < n := by
   rcases Nat.lt_or_ge j n with h | h
   · exact h
   · exact absurd hj (tail_waits hs hc hn inv _ i rfl hin hun j h)
  refine ⟨hjn, ?_⟩
  by_cases hji : j = i
  · subst hji; exact put _ _ hy H
  ·
   have h1 := (H.2 j (ready_mono hj hji)).2
   obtain ⟨hjun, oj, hoj, hall⟩ := mem_ready.1 hj
   obtain ⟨_, oi', hoi', halli⟩ := mem_ready.1 hr
   rw [hi] at hoi'; cases hoi'
   have hnot : ∀ e ∈ oj.after, Region.binds .any e = true → e.on ≠ i := fun e he hb heq => by
    have h1 := hall e he hb
    rw [heq, getD_both hun] at h1
    cases h1
   have hnot' : ∀ e ∈ oi.after, Region.binds .any e = true → e.on ≠ j := fun e he hb heq => by
    have h1 := halli e he hb
    rw [heq, getD_both hjun] at h1
    cases h1
   have hnb : cs.idxOf? i = none ∨ cs.idxOf? j = none := by
    cases hqi : cs.idxOf? i with
    | none => exact .inl rfl
    | some q =>
     cases hqj : cs.idxOf? j with
     | none => exact .inr rfl
     | some q' =>
      exfalso
      have a1 := idxOf_spec hqi
      have a2 := idxOf_spec hqj
      rcases Nat.lt_trichotomy q q' with h | h | h
      · exact (hord q' j a2 ⟨q, h, i, a1, getD_both hun⟩).2 hj
      · subst h; rw [a1] at a2; exact hji (Option.some.inj a2).symm
      · exact (hord q i a1 ⟨q', h, j, a2, getD_both hjun⟩).2 hr
   have hap := hfree j oj hoj hji hjun hnot
   have h2 := aOpX_put hi hoj hji hap hnot' hnot hnb hkd hdd hy h1
   have hfree' : ∀ k ok, ops[k]? = some ok → k ≠ i → (listed.setIfInBounds j true).getD k true = false →
     (∀ e ∈ ok.after, Region.binds .any e = true → e.on ≠ i) → oi.apart ops ok = true := fun k ok hk hki hun hno => by
    refine hfree k ok hk hki ?_ hno
    by_cases hjk : j = k
    · subst hjk; exact hjun
    · rw [getD_set_ne true hjk] at hun; exact hun
   unfold aOpX at h2 ⊢
   simp only [hoj] at h2 ⊢
   obtain ⟨s, hys, h3⟩ := h2
   refine ⟨s, hys, ih (listed.setIfInBounds j true) _ (inv.set hj hjn) ?_ hfree' ?_ (ready_mono hr (Ne.symm hji)) h3.1 ?_⟩
   ·
    intro q c hqc ⟨q', hq', c', hc', hl'⟩
    have hl2 : listed.getD c' false = false := by
     by_cases e : j = c'
     · subst e; exact getD_both hjun
     · rw [getD_set_ne false e] at hl'; exact hl'
    obtain ⟨h4, h5⟩ := hord q c hqc ⟨q', hq', c', hc', hl2⟩
    have hcj : j ≠ c := fun e => h5 (e ▸ hj)
    refine ⟨by rw [getD_set_ne false hcj]; exact h4, fun hrd => ?_⟩
    -- the one ahead of it is not done
    obtain ⟨hcun, oc, hoc, hcall⟩ := mem_ready.1 hrd
    cases q with
    | zero => omega
    | succ q =>
     have hql : q < cs.length := by have := (List.getElem?_eq_some_iff.1 hqc).1; omega
     obtain ⟨e, he, hb, hon⟩ := hch.2 q cs[q] c (List.getElem?_eq_getElem hql) hqc oc hoc
     have h6 := hcall e he hb
     rw [hon] at h6
     by_cases e2 : q' = q
     ·
      subst e2
      rw [List.getElem?_eq_getElem hql] at hc'
      cases hc'
      rw [hl'] at h6; cases h6
     ·
      have h7 := (hord q cs[q] (List.getElem?_eq_getElem hql) ⟨q', by omega, c', hc', hl2⟩)
      by_cases e3 : j = cs[q]
      · exact h7.2 (e3 ▸ hj)
      · rw [getD_set_ne false e3, h7.1] at h6; cases h6
   ·
    intro t ht
    have hne : oj.dst ≠ some t := fun e => (apart_dst hap).1 t ht |>.2 e
    have hf := hdd t ht
    exact behindX_slot hf hne hkd
   ·
    rw [Array.setIfInBounds_comm _ _ hji]
    exact h3.2

def Done (cs : List Nat) (listed : Array Bool) (j : Nat) : Prop := j ≤ cs.length ∧ ∀ k i, cs[k]? = some i → (listed.getD i false = true ↔ k < j)
theorem E2 {ro : Option Nat} {gs : Nat × List (V × Value × Nat)} {th : (Nat → World → Prop) × Bool} {n g : Nat} {L : Array Bool → (Nat → V) → Prop} {Q' : Exit → Act → World → Prop} (B : Nat) (w0 : World) (S0 : Nat → Prop) (hch : chained ops cs) (hkd : ∀ q, κ q .dead = .dead) (hgs : gs.1 = g1)
  (hL : ∀ listed f φ a w j, L listed f → Done cs listed j → RelF B w0 S0 φ nt (os j) gs th f a w → wpAnyIn (Fd ro) 1 P .any ops Q' g listed a w) :
  ∀ (k : Nat) (listed : Array Bool) (f : Nat → V) (j : Nat), aAnyX P ops nt g1 os κ cs n L k listed f → HeadInv .any ops n listed → Done cs listed j → ∀ φ a w, RelF B w0 S0 φ nt (os j) gs th f a w → (∀ t, nt ≤ t → f t = .dead) → wpAnyIn (Fd ro) 1 P .any ops Q' (k + g) listed a w
 | 0, listed, f, j, h, _, hdn, φ, a, w, hr, hd => by rw [Nat.zero_add]; exact hL _ _ _ _ _ j h hdn hr
 | k + 1, listed, f, j, h, hinv, hdn, φ, a, w, hr, hd => by
  have hsz := hinv.size
  rw [show k + 1 + g = (k + g) + 1 by omega]
  refine ⟨fun h0 => absurd h0 h.1, fun i hi => ?_⟩
  have ha := (h.2 i hi).2
  obtain ⟨hun, oi, hoi, hall⟩ := mem_ready.1 hi
  have hlt : i < ops.size := (Array.getElem?_eq_some_iff.1 hoi).1
  unfold aOpX at ha
  simp only [hoi] at ha
  obtain ⟨r, hy, hK⟩ := ha
  have hdst := hy.dst
  have hd' := behindX_dead (κ := κ) (cs := cs) (i := i) (r := r) hd hdst hkd
  have hsz' := hinv.set hi (h.2 i hi).1
  have hself : (listed.setIfInBounds i true).getD i false = true := by simp [Array.getD_eq_getD_getElem?, hsz, hlt]
  unfold YB at hy
  split at hy
  ·
   rename_i q hq
   have hqi := idxOf_spec hq
   have ebx : q8 κ cs i oi f r = putF (fun t => κ q (f t)) oi.dst r := by unfold q8; rw [hq]
   rw [ebx] at hK hd'
   have hun' : listed.getD i false = false := getD_both hun
   have hjq : j = q := by
    have h1 : ¬ q < j := fun h => by
     have := (hdn.2 q i hqi).2 h
     rw [hun'] at this; cases this
    cases q with
    | zero => omega
    | succ q =>
     have hql : q < cs.length := by have := (List.getElem?_eq_some_iff.1 hqi).1; omega
     obtain ⟨e, he, hb, hon⟩ := hch.2 q cs[q] i (List.getElem?_eq_getElem hql) hqi oi hoi
     have := hall e he hb
     rw [hon] at this
     have := (hdn.2 q cs[q] (List.getElem?_eq_getElem hql)).1 this
     omega
   rw [hjq] at hr
   refine hy.2.2 ro B w0 S0 φ gs th f a w Q' _ hr rfl hd hgs fun φ' a' w' hr' => ?_
   refine E2 B w0 S0 hch hkd hgs hL k _ _ (q + 1) hK hsz' ⟨by have := (List.getElem?_eq_some_iff.1 hqi).1; omega, fun k' i' hk' => ?_⟩ φ' a' w' hr' hd'
   by_cases e : i' = i
   ·
    subst e
    rw [hself]
    have hkk : k' = q := idx_one hch.1 hk' hqi
    simp [hkk]
   ·
    rw [getD_set_ne false (Ne.symm e)]
    have := hdn.2 k' i' hk'
    rw [hjq] at this
    rw [this]
    have hne : k' ≠ q := by
     rintro rfl
     rw [hk'] at hqi; exact e (Option.some.inj hqi)
    omega
  ·
   rename_i hnq
   have ebx : q8 κ cs i oi f r = putF f oi.dst r := by unfold q8; rw [hnq]
   rw [ebx] at hK hd'
   have hyy : Yields P ops oi nt (os j) f r := hy.2 j hdn.1 (fun k' e he hb hk' => (hdn.2 k' e.on hk').1 (hall e he hb)) (fun k' c oc e hc hoc he hb hon => by
    rcases Nat.lt_or_ge k' j with hlt' | hge
    ·
     have h1 := hinv.closed c oc hoc ((hdn.2 k' c hc).2 hlt') e he hb
     rw [hon, getD_both hun] at h1; cases h1
    · exact hge)
   have hdn' : Done cs (listed.setIfInBounds i true) j := ⟨hdn.1, fun k' i' hk' => by
    rw [getD_set_ne false (by rintro rfl; exact idxOf_none hnq k' hk')]
    exact hdn.2 k' i' hk'⟩
   unfold wpOpIn
   split
   · rename_i ho; rw [hoi] at ho; cases ho
   ·
    rename_i o ho
    rw [hoi] at ho; cases ho
    obtain ⟨_, hyy⟩ := hyy
    rcases hyy _ _ _ _ _ _ (hr.noGs.only _) with ⟨hw, hy1⟩ | ⟨hw, hy1⟩
    ·
     rw [if_pos hw]
     rcases hy1 with ⟨v, w', hv, hg, hrep⟩ | ⟨gf, us, hex, hcalls⟩
     · exact B3 hv (E2 B w0 S0 hch hkd hgs hL k _ _ j hK hsz' hdn' _ _ _ ((hr.grow hg).put oi.dst hdst hrep) hd')
     ·
      refine wp_enter hex (hcalls.mono ?_)
      rintro e w' ⟨v, rfl, hg, hrep⟩
      exact ⟨v, rfl, E2 B w0 S0 hch hkd hgs hL k _ _ j hK hsz' hdn' _ _ _ ((hr.grow hg).put oi.dst hdst hrep) hd'⟩
    ·
     rw [if_neg (by rw [hw]; simp)]
     exact ⟨fun _ _ => trivial, E2 B w0 S0 hch hkd hgs hL k _ _ j hK hsz' hdn' _ _ _ (hr.put oi.dst hdst hy1) hd'⟩

def C8 (g : V → V) (env : Env) : Env := { env with tmps := env.tmps.map fun x => (x.1, g x.2) }
theorem get_killMap (g : V → V) (hg : g .dead = .dead) (l : List (Nat × V)) (t : Nat) : get (l.map fun x => (x.1, g x.2)) t = g (get l t) := by
 induction l with
 | nil => simp [get, hg]
 | cons x l ih =>
  obtain ⟨s, v⟩ := x
  simp only [List.map_cons, get]
  split
  · rfl
  · exact ih
def FWX (P : Program) (ops : Array Oper) (g1 : Nat) (os : Nat → List Ob) (κ : Nat → V → V) (cs : List Nat) : List Oper → Nat → Env → (Env → Prop) → Prop
 | [], _, env, K => K env
 | o :: l, i, env, K => ∃ r, YB P ops env.nt g1 os κ cs i o (get env.tmps) r ∧ FWX P ops g1 os κ cs l (i + 1) (match cs.idxOf? i with | some q => putO (C8 (κ q) env) o.dst r | none => putO env o.dst r) K

theorem aAnyX_lex {n g : Nat} {K : Env → Prop} (hs : Region.sinkB .any ops n = true) (hc : Region.chainB .any ops n = true) (hn : n < ops.size) (hch : chained ops cs) (hkd : ∀ q, κ q .dead = .dead) (hcn : ∀ i ∈ cs, i < n) :
  ∀ (l : List Oper) (k : Nat) (listed : Array Bool) (env : Env), (∀ j, j < l.length → l[j]? = ops[k + j]?) → k + l.length = n → HeadInv .any ops n listed →
  Region.lexHead .any ops g l.length k listed = true → (l.filterMap (·.dst)).Nodup → (∀ t ∈ l.filterMap (·.dst), get env.tmps t = .dead) → FWX P ops g1 os κ cs l k env K → (∀ i, listed.getD i false = true ↔ i < k) →
  aAnyX P ops env.nt g1 os κ cs n (fun listed' f' => (∀ i, i < n → listed'.getD i false = true) ∧ Region.seqB .any ops g n listed' = true ∧ ∃ env', env'.nt = env.nt ∧ env'.objs = env.objs ∧ env'.gs = env.gs ∧ env'.th = env.th ∧ get env'.tmps = f' ∧ K env') l.length listed (get env.tmps)
 | [], k, listed, env, _, hk, inv, hB, _, _, h, hcl => by
  have : k = n := by simpa using hk
  subst this
  exact ⟨fun i hi => (hcl i).2 hi, by simpa [Region.lexHead] using hB, env, rfl, rfl, rfl, rfl, rfl, h⟩
 | o :: l, k, listed, env, hl, hk, inv, hB, hnd, hfr, h, hcl => by
  have h0 : ops[k]? = some o := by simpa using (hl 0 (by simp)).symm
  simp only [List.length_cons, Region.lexHead, Bool.and_eq_true] at hB
  obtain ⟨⟨hr, hf⟩, hB'⟩ := hB
  have hkn : k < n := by simp only [List.length_cons] at hk; omega
  have hr' : k ∈ Region.ready .any ops listed := by simpa using hr
  obtain ⟨r, hy, hK⟩ := h
  have hkl : k < listed.size := by
   have := (mem_ready.1 hr').1
   rcases Nat.lt_or_ge k listed.size with h | h
   · exact h
   · rw [Array.getD_eq_getD_getElem?, Array.getElem?_eq_none h] at this; cases this
  obtain ⟨env2, henv2⟩ : ∃ env2, env2 = (match cs.idxOf? k with | some q => putO (C8 (κ q) env) o.dst r | none => putO env o.dst r) := ⟨_, rfl⟩
  rw [← henv2] at hK
  have he : get env2.tmps = q8 κ cs k o (get env.tmps) r ∧ env2.nt = env.nt ∧ env2.objs = env.objs ∧ env2.gs = env.gs ∧ env2.th = env.th := by
   cases hq : cs.idxOf? k with
   | some q =>
    simp only [hq] at henv2
    subst henv2
    refine ⟨?_, (D8 _ _ _).1, (D8 _ _ _).2.1, (D8 _ _ _).2.2.1, (D8 _ _ _).2.2.2⟩
    simp only [q8, hq]
    rw [get_putO]
    congr 1
    funext t
    exact get_killMap _ (hkd q) env.tmps t
   | none =>
    simp only [hq] at henv2
    subst henv2
    simp only [q8, hq]
    exact ⟨get_putO _ _ _, (D8 _ _ _).1, (D8 _ _ _).2.1, (D8 _ _ _).2.2.1, (D8 _ _ _).2.2.2⟩
  have hnd' : (l.filterMap (·.dst)).Nodup := by
   cases hdo : o.dst with
   | none => rw [List.filterMap_cons_none hdo] at hnd; exact hnd
   | some d => rw [List.filterMap_cons_some hdo] at hnd; exact (List.nodup_cons.1 hnd).2
  have hfr' : ∀ t ∈ l.filterMap (·.dst), get env2.tmps t = .dead := by
   intro t ht
   have h1 : get env.tmps t = .dead := hfr t (by
    cases hdo : o.dst with
    | none => rw [List.filterMap_cons_none hdo]; exact ht
    | some d => rw [List.filterMap_cons_some hdo]; exact List.mem_cons_of_mem _ ht)
   have h2 : o.dst ≠ some t := fun hdo => by
    rw [List.filterMap_cons_some hdo] at hnd
    exact (List.nodup_cons.1 hnd).1 ht
   rw [he.1]
   exact behindX_slot h1 h2 hkd
  have ih := aAnyX_lex (g := g) hs hc hn hch hkd hcn l (k + 1) (listed.setIfInBounds k true) env2 (fun j hj => by have := hl (j + 1) (by simp; omega); simpa [Nat.add_assoc, Nat.add_comm 1 j] using this) (by simp only [List.length_cons] at hk; omega) (inv.set hr' hkn) hB' hnd' hfr' hK (fun i => by
   by_cases e : i = k
   · subst e; simp [Array.getD_eq_getD_getElem?, hkl]
   · rw [getD_set_ne false (Ne.symm e), hcl i]; omega)
  rw [he.1, he.2.1, he.2.2.1, he.2.2.2.1, he.2.2.2.2] at ih
  refine aAnyX_first h0 hs hc hn hkn hch hkd (fun listed' f' hL => seqB_ready hL.2.1) l.length listed _ inv ?_ (Region.free_spec h0 hf) ?_ hr' hy ih
  ·
   intro q c hqc ⟨q', hq', c', hc', hl'⟩
   have h1 : k ≤ c' := by
    rcases Nat.lt_or_ge c' k with h | h
    · rw [(hcl c').2 h] at hl'; cases hl'
    · exact h
   have h2 : c' < c := by
    obtain ⟨a1, a2⟩ := List.getElem?_eq_some_iff.1 hqc
    obtain ⟨b1, b2⟩ := List.getElem?_eq_some_iff.1 hc'
    have := List.pairwise_iff_getElem.1 hch.1 q' q b1 a1 hq'
    omega
   refine ⟨?_, fun hrd => ?_⟩
   ·
    cases hq : listed.getD c false with
    | false => rfl
    | true => have := (hcl c).1 hq; omega
   ·
    obtain ⟨_, oc, hoc, hcall⟩ := mem_ready.1 hrd
    cases q with
    | zero => omega
    | succ q =>
     have hql : q < cs.length := by have := (List.getElem?_eq_some_iff.1 hqc).1; omega
     obtain ⟨e, hee, hb, hon⟩ := hch.2 q cs[q] c (List.getElem?_eq_getElem hql) hqc oc hoc
     have h6 := (hcl e.on).1 (hcall e hee hb)
     rw [hon] at h6
     have h7 : c' ≤ cs[q] := by
      obtain ⟨b1, b2⟩ := List.getElem?_eq_some_iff.1 hc'
      rcases Nat.lt_or_ge q' q with h | h
      · have := List.pairwise_iff_getElem.1 hch.1 q' q b1 hql h; omega
      ·
       have : q' = q := by omega
       subst this; omega
     omega
  ·
   intro t ht
   exact hfr t (by rw [List.filterMap_cons_some ht]; exact List.mem_cons_self ..)

theorem PW.drawX {ro : Option Nat} {id : Nat} {Q : Exit → Env → Prop} {l : List Oper} {env : Env} (n : Nat) (cs : List Nat) (os : Nat → List Ob) (κ : Nat → V → V) (hm : P.follows .mixedOrders = true) (hB : Region.lexTailB .any l.toArray n = true) (hcn : ∀ i ∈ cs, i < n) (hch : chained l.toArray cs)
  (hkd : ∀ q, κ q .dead = .dead) (hnd : ((l.take n).filterMap (·.dst)).Nodup) (hfr : ∀ t ∈ (l.take n).filterMap (·.dst), get env.tmps t = .dead)
  (hos : os 0 = env.objs) (hnt : env.tmps.all (fun x => decide (x.1 < env.nt)) = true)
  (h : ∀ K : Env → Prop, (∀ env', Q .normal env' → K env') → FWX P l.toArray env.gs.1 os κ cs (l.take n) 0 env fun env' => OW ro P l (l.drop n) { env' with objs := os cs.length } K) : PW ro P (.region id l.toArray true) Q env := by
 simp only [Region.lexTailB, Bool.and_eq_true, decide_eq_true_eq] at hB
 obtain ⟨⟨⟨⟨hsel, hn⟩, hs⟩, hc⟩, hlex⟩ := hB
 have hn' : n < l.length := by simpa using hn
 have htl : (l.take n).length = n := by simp; omega
 have hdl : (l.drop n).length = l.toArray.size - n := by simp
 have inv0 : HeadInv .any l.toArray n (Array.replicate l.toArray.size false) :=
  ⟨by simp, fun j oj _ hl => (by rw [getD_replicate_false] at hl; cases hl), fun t _ ht => Go.getD_in (by simpa using ht) (getD_replicate_false _ _)⟩
 have H := aAnyX_lex (P := P) (ops := l.toArray) (g1 := env.gs.1) (os := os) (κ := κ) (cs := cs) (g := l.toArray.size - n) hs hc hn hch hkd hcn (l.take n) 0 _ env (fun j hj => by
  have hj' : j < n := by rw [htl] at hj; exact hj
  simp [hj']) (by simpa using htl) inv0 (by rw [htl]; exact hlex) hnd hfr (h (Q .normal) fun _ h => h) (fun i => by rw [getD_replicate_false]; simp)
 intro B w0 S0 φ a w hr
 refine wpIn_region_any hm ?_
 have hr' : RelF B w0 S0 φ env.nt env.objs env.gs env.th (get env.tmps) a { w with drawn := w.drawn + 1 } := hr.toF.grow (Grows.drew w)
 have hdead : ∀ t, env.nt ≤ t → get env.tmps t = .dead := fun t ht => get_absent _ _ fun x hx e => by
  have := of_decide_eq_true (List.all_eq_true.1 hnt x hx)
  omega
 have d0 : Done cs (Array.replicate l.toArray.size false) 0 := ⟨Nat.zero_le _, fun k i _ => by rw [getD_replicate_false]; simp⟩
 have := E2 (ro := ro) (Q' := Sat B w0 S0 Q) (g := l.toArray.size - n) (nt := env.nt) (g1 := env.gs.1) (os := os) (κ := κ) (cs := cs) (gs := env.gs) (th := env.th) (P := P) (n := n) (ops := l.toArray) B w0 S0 hch hkd rfl (fun listed f φ' a' w' j hL hdn hrf => by
  obtain ⟨hcl, hseq, env', e1, e2, e4, e5, e3, hK⟩ := hL
  subst e3
  have ej : j = cs.length := by
   rcases Nat.lt_or_ge j cs.length with h | h
   ·
    have h1 := (hdn.2 j cs[j] (List.getElem?_eq_getElem h)).1 (hcl _ (hcn _ (List.getElem_mem h)))
    omega
   · have := hdn.1; omega
  rw [ej] at hrf
  have hrel : Rel B w0 S0 φ' { env' with objs := os cs.length } a' w' := RelF.toRel (env := { env' with objs := os cs.length }) (by rw [← e1, ← e4, ← e5] at hrf; exact hrf)
  have hwp := hK B w0 S0 φ' a' w' (Sat B w0 S0 Q) hrel fun φ2 env2 a2 w2 hk2 hr2 => ⟨env2, φ2, hk2, hr2⟩
  have := wpAnyIn_of_seq (md := .any) (Q' := Sat B w0 S0 Q) (l.drop n) n listed a' w' (fun j => by simp [List.getElem?_drop]) (by rw [hdl]; exact hseq) hwp
  rwa [hdl] at this) _ _ _ 0 H inv0 d0 _ _ _ (by rw [hos]; exact hr') hdead
 rw [htl, show n + (l.toArray.size - n) = l.toArray.size by omega] at this
 exact this

theorem FWX.yieldsCall {P : Program} {env : Env} {ops : Array Oper} {o : Oper} {fo : Operand} {xs : Array Operand} {ts : Array TypeId} (ho : o.op = .call { callee := .value fo, args := xs, argTypes := ts }) (hg : o.guard = none)
  {f : FuncId} {caps : List V} (hf : E0 (ev env fo) = some (f, caps)) {x : D} (hc : CallV P env f (xs.toList.map (ev env) ++ caps) (.d x) []) (hd : l5 env o.dst) : Yields P ops o env.nt env.objs (get env.tmps) (.d x) := by
 refine ⟨A7 hd, fun B w0 S0 φ a w hr => .inl ⟨k7 hg _, .inr ?_⟩⟩
 have hr' : Rel B w0 S0 φ { env with tmps := G2 (o.looksAt ops) env.tmps, gs := (0, []), th := (fun _ _ => True, true) } a w := RelF.toRel (by simpa [q3] using hr)
 have hmem : ∀ y, y = fo ∨ y ∈ xs.toList → y ∈ o.op.operands.toList := by
  intro y hy
  rw [ho]
  simp only [Op.operands, Call.operands, Array.toList_append, List.mem_append]
  rcases hy with rfl | hy
  · exact .inl (by simp)
  · exact .inr hy
 have e1 : ev { env with tmps := G2 (o.looksAt ops) env.tmps, gs := (0, []), th := (fun _ _ => True, true) } fo = ev env fo := w7 fo (hmem fo (.inl rfl)) env
 have e2 : xs.toList.map (ev { env with tmps := G2 (o.looksAt ops) env.tmps, gs := (0, []), th := (fun _ _ => True, true) }) = xs.toList.map (ev env) := List.map_congr_left fun y hy => w7 y (hmem y (.inr hy)) env
 have hcall : ∀ args w, (callFunc f args).run P w = .ok (.enter f args) w := by
  obtain ⟨k, _, h1, _⟩ := hc; exact h1.1
 obtain ⟨us, hex, hus⟩ := B9 hr' ho (by rw [e1]; exact hf) hcall
 rw [e2] at hus
 exact ⟨f, us.toArray, hex, CallV.sound0 (env := { env with tmps := G2 (o.looksAt ops) env.tmps, gs := (0, []), th := (fun _ _ => True, true) }) hc hr' hus⟩

theorem FWX.nil {env : Env} {K : Env → Prop} {i : Nat} (h : K env) : FWX P ops g1 os κ cs [] i env K := h
def KeptX (ops : Array Oper) (κ : Nat → V → V) (cs : List Nat) (i : Nat) (o : Oper) (f : Nat → V) (r : V) : Prop :=
 ∀ (q c : Nat) oc, cs[q]? = some c → ops[c]? = some oc → (∀ e ∈ oc.after, Region.binds .any e = true → e.on ≠ i) → (∀ e ∈ o.after, Region.binds .any e = true → e.on ≠ c) → κ q r = r ∧ ∀ t, (o.looksAt ops).contains t = true → κ q (f t) = f t
theorem KeptX.same {i : Nat} {o : Oper} {f : Nat → V} {r : V} (h : ∀ q v, κ q v = v) : KeptX ops κ cs i o f r := fun q _ _ _ _ _ _ => ⟨h q r, fun t _ => h q (f t)⟩
def UpTo (ops : Array Oper) (cs : List Nat) (i M : Nat) : Prop := M = cs.length ∨ ∃ c oc e, cs[M]? = some c ∧ ops[c]? = some oc ∧ e ∈ oc.after ∧ Region.binds .any e = true ∧ e.on = i
theorem UpTo.le {ops : Array Oper} {cs : List Nat} {i M j : Nat} (h : UpTo ops cs i M) (hj : j ≤ cs.length) (hu : ∀ k c oc e, cs[k]? = some c → ops[c]? = some oc → e ∈ oc.after → Region.binds .any e = true → e.on = i → j ≤ k) : j ≤ M := by
 rcases h with rfl | ⟨c, oc, e, h1, h2, h3, h4, h5⟩
 · exact hj
 · exact hu M c oc e h1 h2 h3 h4 h5
theorem FWX.op {env : Env} {K : Env → Prop} {i : Nat} {o : Oper} {l : List Oper} (hic : cs.idxOf? i = none) (hg : o.guard = none) (r : V) (m M : Nat) (hdep : m = 0 ∨ ∃ e ∈ o.after, Region.binds .any e = true ∧ cs[m - 1]? = some e.on) (hup : UpTo ops cs i M)
  (h1 : ∀ j, m ≤ j → j ≤ M → (u3 P { env with objs := os j } o).1 ∧ (u3 P { env with objs := os j } o).2 = r) (hk : KeptX ops κ cs i o (get env.tmps) r) (hd : l5 env o.dst)
  (h : FWX P ops g1 os κ cs l (i + 1) (putO env o.dst r) K) : FWX P ops g1 os κ cs (o :: l) i env K := by
 refine ⟨r, ?_, by rw [hic]; exact h⟩
 unfold YB
 rw [hic]
 refine ⟨⟨A7 hd, hk⟩, fun j hj hdj hu => ?_⟩
 have hmj : m ≤ j := by
  rcases hdep with rfl | ⟨e, he, hb, ho⟩
  · exact Nat.zero_le _
  · have := hdj (m - 1) e he hb ho; omega
 obtain ⟨h2, h3⟩ := h1 j hmj (hup.le hj hu)
 rw [← h3]
 exact Yields.pure (env := { env with objs := os j }) hg h2 hd
def A5 (nt : Nat) (ff : Nat → V) : List (Nat × V) := (List.range nt).map fun t => (t, ff t)
theorem get_slotsL {nt : Nat} {ff : Nat → V} (hd : ∀ t, nt ≤ t → ff t = .dead) : get (A5 nt ff) = ff := by
 funext t
 by_cases ht : t < nt
 ·
  have key : ∀ (l : List Nat), t ∈ l → get (l.map fun t => (t, ff t)) t = ff t := by
   intro l
   induction l with
   | nil => simp
   | cons x l ih =>
    intro hx
    simp only [List.map_cons, get]
    split
    · rename_i e; rw [e]
    ·
     rename_i e
     exact ih ((List.mem_cons.1 hx).resolve_left e)
  exact key _ (List.mem_range.2 ht)
 ·
  rw [hd t (by omega)]
  exact get_absent _ _ fun x hx e => by
   obtain ⟨y, hy, rfl⟩ := List.mem_map.1 hx
   have := List.mem_range.1 hy
   simp only at e; omega
def FreeX (ops : Array Oper) (g : V → V) (i : Nat) (f : Nat → V) : Prop :=
 ∀ (j : Nat) oj, ops[j]? = some oj → j ≠ i → (∀ e ∈ oj.after, Region.binds .any e = true → e.on ≠ i) → (∀ oi, ops[i]? = some oi → ∀ e ∈ oi.after, Region.binds .any e = true → e.on ≠ j) → ∀ t, (oj.looksAt ops).contains t = true → g (f t) = f t
theorem FreeX.same {g : V → V} {i : Nat} {f : Nat → V} (h : ∀ v, g v = v) : FreeX ops g i f := fun _ _ _ _ _ _ t _ => h (f t)
theorem FreeX.of {g : V → V} {i : Nat} {l : List (Nat × V)} (hg : g .dead = .dead) (bad : List Nat) (h1 : ∀ x ∈ l, x.1 ∈ bad ∨ g x.2 = x.2) (h2 : ∀ t ∈ bad, ∀ j oj, ops[j]? = some oj → j ≠ i → (∀ oi, ops[i]? = some oi → ∀ e ∈ oi.after, Region.binds .any e = true → e.on ≠ j) → (oj.looksAt ops).contains t = false) : FreeX ops g i (get l) := by
 intro j oj ho hne _ hib t ht
 by_cases hb : t ∈ bad
 · rw [h2 t hb j oj ho hne hib] at ht; cases ht
 ·
  have key : ∀ m : List (Nat × V), (∀ x ∈ m, x.1 ∈ bad ∨ g x.2 = x.2) → g (get m t) = get m t := by
   intro m
   induction m with
   | nil => intro _; exact hg
   | cons x m ih =>
    intro hm
    obtain ⟨s, v⟩ := x
    simp only [get]
    split
    ·
     rename_i e
     subst e
     exact (hm (t, v) (List.mem_cons_self ..)).resolve_left hb
    · exact ih fun x hx => hm x (List.mem_cons_of_mem _ hx)
  exact key l h1
theorem FWX.step {env : Env} {K : Env → Prop} {i q : Nat} {o : Oper} {l : List Oper} (r : V) (hq : cs.idxOf? i = some q) (hoi : ops[i]? = some o) (hg : o.guard = none) (hd : l5 env o.dst) (hfree : FreeX ops (κ q) i (get env.tmps))
  (hst : ∀ T gs th, gs.1 = g1 → (∀ x ∈ o.op.operands.toList, ev ⟨env.nt, T, os q, gs, th⟩ x = ev env x) → (y8 P ⟨env.nt, T, os q, gs, th⟩ o).1 ∧
   ∃ T', (y8 P ⟨env.nt, T, os q, gs, th⟩ o).2 = ⟨env.nt, T', os (q + 1), gs, th⟩ ∧ get T' = putF (fun t => κ q (get T t)) o.dst r)
  (h : FWX P ops g1 os κ cs l (i + 1) (putO (C8 (κ q) env) o.dst r) K) : FWX P ops g1 os κ cs (o :: l) i env K := by
 refine ⟨r, ?_, by rw [hq]; exact h⟩
 unfold YB
 rw [hq]
 refine ⟨fun j oj hj hne h1 h2 t ht => hfree j oj hj hne h1 (fun oi ho => by rw [hoi] at ho; cases ho; exact h2) t ht, A7 hd, fun ro B w0 S0 φ gs th ff a w Q' next hr hon hdead hgs hnext => ?_⟩
 have hev : ∀ y ∈ o.op.operands.toList, ev ⟨env.nt, A5 env.nt ff, os q, gs, th⟩ y = ev env y := by
  intro y hy
  cases y with
  | tmp s =>
   simp only [ev, get_slotsL hdead]
   refine only_get hon ?_
   simp only [Oper.looksAt, List.contains_iff_mem, List.mem_append, List.mem_filterMap]
   exact .inl ⟨.tmp s, hy, rfl⟩
  | _ => rfl
 have hrel : Rel B w0 S0 φ ⟨env.nt, A5 env.nt ff, os q, gs, th⟩ a w := RelF.toRel (env := ⟨env.nt, A5 env.nt ff, os q, gs, th⟩) (by rw [get_slotsL hdead]; exact hr)
 obtain ⟨h1, T', h2, h3⟩ := hst (A5 env.nt ff) gs th hgs hev
 unfold wpOpIn
 simp only [hoi]
 rw [if_pos (k7 hg _)]
 have key := stepF_sound (P := P) h1
 rw [h2] at key
 exact key B w0 S0 φ a w hrel _ _ (fun φ' a' w' hr' => hnext φ' a' w' (by
  have := hr'.toF
  rw [show (get ({ nt := env.nt, tmps := T', objs := os (q + 1), gs := gs, th := th } : Env).tmps) = putF (fun t => κ q (ff t)) o.dst r by rw [h3, get_slotsL hdead]] at this
  exact this)) ro
theorem FWX.store {env : Env} {K : Env → Prop} {i q : Nat} {o : Oper} {l : List Oper} {t : TypeId} {p v : Operand} (hq : cs.idxOf? i = some q) (hoi : ops[i]? = some o) (ho : o.op = .store t p v) (hg : o.guard = none) (hdn : o.dst = none) (hκ : ∀ v, κ q v = v)
  (h1 : (B7 P { env with objs := os q } none t (ev env p) (ev env v)).1) (h2 : (B7 P { env with objs := os q } none t (ev env p) (ev env v)).2.objs = os (q + 1))
  (h : FWX P ops g1 os κ cs l (i + 1) env K) : FWX P ops g1 os κ cs (o :: l) i env K := by
 refine FWX.step .dead hq hoi hg (by rw [hdn]; trivial) (FreeX.same hκ) (fun T gs th _ hev => ?_) ?_
 ·
  have e1 := hev p (by rw [ho]; simp [Op.operands])
  have e2 := hev v (by rw [ho]; simp [Op.operands])
  have hstep : y8 P ⟨env.nt, T, os q, gs, th⟩ o = B7 P ⟨env.nt, T, os q, gs, th⟩ none t (ev env p) (ev env v) := by
   simp only [y8, ho, hdn, e1, e2]
  rw [hstep]
  cases hp : ev env p with
  | ptr i off =>
   cases ht : F3 P t with
   | none => simp [B7, hp, ht] at h1
   | some x =>
    obtain ⟨x1, x2, x3⟩ := x
    simp only [B7, hp, ht] at h1 h2 ⊢
    cases hob : (os q)[i]? with
    | none => simp [hob] at h1
    | some ob =>
     simp only [hob] at h1 h2 ⊢
     exact ⟨h1, T, by rw [h2], by rw [hdn]; funext s; simp only [putF, hκ]⟩
  | _ => simp [B7, hp] at h1
 ·
  rw [hdn]
  have : C8 (κ q) env = env := by
   have : (env.tmps.map fun x => (x.1, κ q x.2)) = env.tmps := by
    conv => rhs; rw [← List.map_id env.tmps]
    exact List.map_congr_left fun x _ => by rw [hκ]; rfl
   simp only [C8, this]
  rw [this]; exact h
theorem get_put' (l : List (Nat × V)) (d : Nat) (r : V) : get (put l d r) = putF (get l) (some d) r := by funext t; simp only [get_put, putF]
theorem FWX.box {env : Env} {K : Env → Prop} {i q d : Nat} {o : Oper} {l : List Oper} {e : TypeId} {x : Operand} (hq : cs.idxOf? i = some q) (hoi : ops[i]? = some o) (ho : o.op = .box e x) (hg : o.guard = none) (hdn : o.dst = some d) (hdl : d < env.nt) (hκ : ∀ v, κ q v = v)
  (h1 : (r6 (ev env x)).all oneV = true) (h2 : os q ++ [⟨r6 (ev env x), e⟩] = os (q + 1))
  (h : FWX P ops g1 os κ cs l (i + 1) (putO env o.dst (.ptr (os q).length 0)) K) : FWX P ops g1 os κ cs (o :: l) i env K := by
 refine FWX.step (.ptr (os q).length 0) hq hoi hg (by rw [hdn]; exact hdl) (FreeX.same hκ) (fun T gs th _ hev => ?_) ?_
 ·
  have e1 := hev x (by rw [ho]; simp [Op.operands])
  have hstep : y8 P ⟨env.nt, T, os q, gs, th⟩ o = boxF ⟨env.nt, T, os q, gs, th⟩ (some d) e (ev env x) := by
   simp only [y8, ho, hdn, e1]
  rw [hstep]
  refine ⟨⟨h1, hdl⟩, put T d (.ptr (os q).length 0), ?_, ?_⟩
  · simp only [boxF, newOb, putO, Env.put, h2]
  · rw [get_put', hdn]; congr 1; funext s; rw [hκ]
 ·
  have : C8 (κ q) env = env := by
   have : (env.tmps.map fun x => (x.1, κ q x.2)) = env.tmps := by
    conv => rhs; rw [← List.map_id env.tmps]
    exact List.map_congr_left fun x _ => by rw [hκ]; rfl
   simp only [C8, this]
  rw [this]; exact h
theorem FWX.build {env : Env} {K : Env → Prop} {i q d : Nat} {o : Oper} {l : List Oper} {t : TypeId} {n : Nat} {parts : Array (Nat × Operand)} (hq : cs.idxOf? i = some q) (hoi : ops[i]? = some o) (ho : o.op = .buildSlice t n parts) (hg : o.guard = none) (hdn : o.dst = some d) (hdl : d < env.nt) (hκ : ∀ v, κ q v = v) (r : V)
  (h1 : (o5 P { env with objs := os q } (some d) t n (parts.toList.map fun x => (x.1, ev env x.2))).1) (h2 : (o5 P { env with objs := os q } (some d) t n (parts.toList.map fun x => (x.1, ev env x.2))).2 = { env with objs := os (q + 1), tmps := put env.tmps d r })
  (h : FWX P ops g1 os κ cs l (i + 1) (putO env o.dst r) K) : FWX P ops g1 os κ cs (o :: l) i env K := by
 refine FWX.step r hq hoi hg (by rw [hdn]; exact hdl) (FreeX.same hκ) (fun T gs th _ hev => ?_) ?_
 ·
  have e1 : (parts.toList.map fun x => (x.1, ev ⟨env.nt, T, os q, gs, th⟩ x.2)) = parts.toList.map fun x => (x.1, ev env x.2) :=
   List.map_congr_left fun x hx => by rw [hev x.2 (by rw [ho]; simp only [Op.operands, Array.toList_map, List.mem_map]; exact ⟨x, hx, rfl⟩)]
  have hstep : y8 P ⟨env.nt, T, os q, gs, th⟩ o = o5 P ⟨env.nt, T, os q, gs, th⟩ (some d) t n (parts.toList.map fun x => (x.1, ev env x.2)) := by
   simp only [y8, ho, hdn, e1]
  rw [hstep]
  generalize (parts.toList.map fun x => (x.1, ev env x.2)) = ps at h1 h2 ⊢
  unfold o5 at h1 h2 ⊢
  split at h1
  ·
   rename_i e he
   simp only [he] at h2 ⊢
   split at h1
   ·
    rename_i s b z ht
    simp only [ht] at h2 ⊢
    simp only [newOb, putO, Env.put] at h2 ⊢
    have h3 := congrArg Env.objs h2
    have h4 := congrArg Env.tmps h2
    simp only at h3 h4
    refine ⟨h1, put T d r, ?_, by rw [get_put', hdn]; congr 1; funext s; rw [hκ]⟩
    have hr : V.own (os q).length 0 n s = r := by
     have h5 : get (put env.tmps d (V.own (os q).length 0 n s)) d = get (put env.tmps d r) d := by rw [h4]
     simpa [get_put] using h5
    rw [h3, hr]
   · exact h1.elim
  · exact h1.elim
 ·
  have : C8 (κ q) env = env := by
   have : (env.tmps.map fun x => (x.1, κ q x.2)) = env.tmps := by
    conv => rhs; rw [← List.map_id env.tmps]
    exact List.map_congr_left fun x _ => by rw [hκ]; rfl
   simp only [C8, this]
  rw [this]; exact h
theorem FWX.append {env : Env} {K : Env → Prop} {i q d : Nat} {o : Oper} {l : List Oper} {t t' : TypeId} {sv x : Operand} (b : Nat) (hq : cs.idxOf? i = some q) (hoi : ops[i]? = some o) (ho : o.op = .call { callee := .builtin .append, args := #[sv, x], argTypes := #[t, t'] }) (hg : o.guard = none) (hdn : o.dst = some d) (hdl : d < env.nt)
  (hκ : κ q = V.kill b) (hg1 : g1 ≤ b) (r : V) (hfree : FreeX ops (V.kill b) i (get env.tmps)) {off n sz : Nat} (hs : ev env sv = .own b off n sz)
  (h1 : (q4 P { env with objs := os q, gs := (g1, []) } (some d) t t' (ev env sv) (ev env x)).1)
  (h2 : (q4 P { env with objs := os q, gs := (g1, []) } (some d) t t' (ev env sv) (ev env x)).2 = { env with objs := os (q + 1), gs := (g1, []), tmps := put (env.tmps.map fun x => (x.1, x.2.kill b)) d r })
  (h : FWX P ops g1 os κ cs l (i + 1) (putO (C8 (V.kill b) env) o.dst r) K) : FWX P ops g1 os κ cs (o :: l) i env K := by
 refine FWX.step r hq hoi hg (by rw [hdn]; exact hdl) (by rw [hκ]; exact hfree) (fun T gs th hgs hev => ?_) (by rw [hκ]; exact h)
 have e1 := hev sv (by rw [ho]; simp [Op.operands, Call.operands])
 have e2 := hev x (by rw [ho]; simp [Op.operands, Call.operands])
 have hstep : y8 P ⟨env.nt, T, os q, gs, th⟩ o = q4 P ⟨env.nt, T, os q, gs, th⟩ (some d) t t' (ev env sv) (ev env x) := by
  simp only [y8, ho, hdn, E9, List.map_cons, List.map_nil, e1, e2]
 rw [hstep]
 rw [hs] at h1 h2 ⊢
 cases hse : C4 P t with
 | none => simp [q4, hse] at h1
 | some e =>
  cases hte : F3 P e with
  | none => simp [q4, hse, hte] at h1
  | some y =>
   obtain ⟨s, by_, z⟩ := y
   cases hob : (os q)[b]? with
   | none => simp [q4, hse, hte, hob] at h1
   | some ob =>
    simp only [q4, hse, hte, hob] at h1 h2 ⊢
    simp only [putO, Env.put, C6] at h2 ⊢
    have h3 := congrArg Env.objs h2
    have h4 := congrArg Env.tmps h2
    simp only at h3 h4
    have hr : V.own b 0 (n + (m6 P (os q) t t' s z (ev env x)).2.1) s = r := by
     have h5 := congrArg (fun l => get l d) h4
     simpa [get_put] using h5
    refine ⟨h1, put (T.map fun x => (x.1, x.2.kill b)) d r, ?_, ?_⟩
    ·
     rw [h3, hr, hgs, if_pos hg1]
     obtain ⟨ga, gb⟩ := gs
     simp only at hgs
     subst hgs
     rfl
    ·
     rw [get_put', hdn, hκ]
     congr 1
     funext t
     exact get_map_kill T b t
end
theorem get_turn {g : V → V} {l : List (Nat × V)} (hg : g .dead = .dead) (bad : List Nat) (h1 : ∀ x ∈ l, x.1 ∈ bad ∨ g x.2 = x.2) {t : Nat} (hb : t ∉ bad) : g (get l t) = get l t := by
 have key : ∀ m : List (Nat × V), (∀ x ∈ m, x.1 ∈ bad ∨ g x.2 = x.2) → g (get m t) = get m t := by
  intro m
  induction m with
  | nil => intro _; exact hg
  | cons x m ih =>
   intro hm
   obtain ⟨s, v⟩ := x
   simp only [get]
   split
   ·
    rename_i e
    subst e
    exact (hm (t, v) (List.mem_cons_self ..)).resolve_left hb
   · exact ih fun x hx => hm x (List.mem_cons_of_mem _ hx)
 exact key l h1
def κL : List (Nat × Nat) → Nat → V → V
 | [], _ => fun v => v
 | (qa, b) :: l, q => if q = qa then V.kill b else κL l q
theorem κL_dead : ∀ (l : List (Nat × Nat)) (q : Nat), κL l q .dead = .dead
 | [], _ => rfl
 | (qa, b) :: l, q => by
  simp only [κL]; split
  · rfl
  · exact κL_dead l q
theorem KeptX.nil {cs : List Nat} {ops : Array Oper} {i : Nat} {o : Oper} {f : Nat → V} {r : V} : KeptX ops (κL []) cs i o f r := KeptX.same fun _ _ => rfl
theorem KeptX.dep {kl : List (Nat × Nat)} {cs : List Nat} {ops : Array Oper} {i : Nat} {o : Oper} {f : Nat → V} {r : V} {qa b c : Nat} {oc : Oper} (hc : cs[qa]? = some c) (ho : ops[c]? = some oc)
  (hd : ∃ e ∈ oc.after, Region.binds .any e = true ∧ e.on = i) (h : KeptX ops (κL kl) cs i o f r) : KeptX ops (κL ((qa, b) :: kl)) cs i o f r := by
 intro q c' oc' h1 h2 h3 h4
 by_cases hq : q = qa
 ·
  subst hq
  rw [hc] at h1; cases h1
  rw [ho] at h2; cases h2
  obtain ⟨e, he, hb, hon⟩ := hd
  exact absurd hon (h3 e he hb)
 · simp only [κL]; rw [if_neg hq]; exact h q c' oc' h1 h2 h3 h4
theorem KeptX.free {kl : List (Nat × Nat)} {cs : List Nat} {ops : Array Oper} {i : Nat} {o : Oper} {l : List (Nat × V)} {r : V} {qa b : Nat} (bad : List Nat) (hr : r.kill b = r)
  (h1 : ∀ x ∈ l, x.1 ∈ bad ∨ x.2.kill b = x.2) (h2 : bad.all (fun t => !(o.looksAt ops).contains t) = true) (h : KeptX ops (κL kl) cs i o (get l) r) : KeptX ops (κL ((qa, b) :: kl)) cs i o (get l) r := by
 intro q c' oc' a1 a2 a3 a4
 by_cases hq : q = qa
 ·
  subst hq
  simp only [κL, if_true]
  refine ⟨hr, fun t ht => get_turn rfl bad h1 fun hb => ?_⟩
  have := List.all_eq_true.1 h2 t hb
  rw [ht] at this; cases this
 · simp only [κL]; rw [if_neg hq]; exact h q c' oc' a1 a2 a3 a4
theorem freshL {l : List (Nat × V)} {ds : List Nat} (h : ds.all (fun t => l.all fun x => x.1 != t) = true) : ∀ t ∈ ds, get l t = .dead := fun t ht => get_absent _ _ fun x hx e => by
 have := List.all_eq_true.1 (List.all_eq_true.1 h t ht) x hx
 simp [e] at this
theorem FreeX.of' {ops : Array Oper} {g : V → V} {i : Nat} {l : List (Nat × V)} (hg : g .dead = .dead) (bad : List Nat) (h1 : ∀ x ∈ l, x.1 ∈ bad ∨ g x.2 = x.2) (h2 : (List.range ops.size).all (fun j => j == i || (match ops[i]? with | some oi => oi.after.toList.any (fun e => Region.binds .any e && e.on == j) | none => false) || match ops[j]? with | some oj => bad.all fun t => !(oj.looksAt ops).contains t | none => true) = true) : FreeX ops g i (get l) := by
 refine FreeX.of hg bad h1 fun t ht j oj ho hne hib => ?_
 have hj : j < ops.size := by
  rcases Nat.lt_or_ge j ops.size with h | h
  · exact h
  · rw [Array.getElem?_eq_none h] at ho; cases ho
 have := List.all_eq_true.1 h2 j (List.mem_range.2 hj)
 rw [ho] at this
 have hz : (match ops[i]? with | some oi => oi.after.toList.any (fun e => Region.binds .any e && e.on == j) | none => false) = false := by
  cases ho2 : ops[i]? with
  | none => rfl
  | some oi =>
   simp only
   rw [List.any_eq_false]
   intro e he hc
   simp only [Bool.and_eq_true, beq_iff_eq] at hc
   exact hib oi ho2 e (Array.mem_toList_iff.1 he) hc.1 hc.2
 rw [hz] at this
 simp only [Bool.or_eq_true, beq_iff_eq, hne, false_or, Bool.false_eq_true] at this
 have := List.all_eq_true.1 this t ht
 cases hc : (oj.looksAt ops).contains t
 · rfl
 · rw [hc] at this; cases this

end Go.PW
