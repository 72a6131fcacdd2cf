import Derived.Test.YtbndgoeahoadlaaGreatDoorPwO
import Derived.StillTail
set_option linter.all false
namespace Go.PW
open Go.RowKit

structure RelF (B : Nat) (w0 : World) (S0 : Nat → Prop) (φ : Nat → Option Nat) (nt : Nat) (objs : List Ob) (gs : Nat × List (V × Value × Nat)) (th : (Nat → World → Prop) × Bool) (f : Nat → V) (a : Act) (w : World) : Prop where
 below : Below B w0 w
 base : B ≤ w0.heap.size ∧ GI B w0 S0
 nodef : Marks B a.defers th w
 size : nt ≤ a.tmps.size
 tmps : ∀ t, RepV w (Imm B S0 φ objs.length) φ objs.length (f t) (a.tmps.getD t undef)
 objsR : ∀ i ob, objs[i]? = some ob → ObRep w (Imm B S0 φ objs.length) φ objs.length i ob
 low : ∀ i g, i < objs.length → φ i = some g → B ≤ g
 inj : ∀ i j g, i < objs.length → j < objs.length → φ i = some g → φ j = some g → i = j
 ghost : gs.1 ≤ objs.length ∧ ∀ x ∈ gs.2, x.2.2 ≤ gs.1 ∧ RepV w (Imm B S0 φ objs.length) φ x.2.2 x.1 x.2.1

section
variable {B : Nat} {w0 : World} {S0 : Nat → Prop} {φ : Nat → Option Nat} {env : Env} {a : Act} {w w' : World} {nt : Nat} {objs : List Ob} {gs : Nat × List (V × Value × Nat)} {th : (Nat → World → Prop) × Bool} {f : Nat → V}

theorem Rel.toF (h : Rel B w0 S0 φ env a w) : RelF B w0 S0 φ env.nt env.objs env.gs env.th (get env.tmps) a w := ⟨h.below, h.base, h.nodef, h.size, h.tmps, h.objs, h.low, h.inj, h.ghost⟩
theorem RelF.toRel {env : Env} (h : RelF B w0 S0 φ env.nt env.objs env.gs env.th (get env.tmps) a w) : Rel B w0 S0 φ env a w := ⟨h.below, h.base, h.nodef, h.size, h.tmps, h.objsR, h.low, h.inj, h.ghost⟩

def putF (f : Nat → V) : Option Nat → V → Nat → V
 | some d, v => fun t => if t = d then v else f t
 | none, _ => f
def okD' (nt : Nat) : Option Nat → Prop
 | some d => d < nt
 | none => True

theorem RelF.put (h : RelF B w0 S0 φ nt objs gs th f a w) (d : Option Nat) (hd : okD' nt d) {r : V} {v : Value} (hv : RepV w (Imm B S0 φ objs.length) φ objs.length r v) : RelF B w0 S0 φ nt objs gs th (putF f d r) (a.put d v) w := by
 cases d with
 | none => exact h
 | some d =>
  refine ⟨h.below, h.base, h.nodef, by simpa [Act.put] using h.size, fun t => ?_, h.objsR, h.low, h.inj, h.ghost⟩
  rw [put_getD a d v t (Nat.lt_of_lt_of_le hd h.size)]
  simp only [putF]
  split
  · exact hv
  · exact h.tmps t

theorem RelF.grow (h : RelF B w0 S0 φ nt objs gs th f a w) (hg : Grows w w') : RelF B w0 S0 φ nt objs gs th f a w' := by
 -- through a list that is not looked at
 have hr : Rel B w0 S0 φ ⟨0, [], objs, gs, th⟩ { a with tmps := #[] } w := ⟨h.below, h.base, h.nodef, Nat.zero_le _, fun t => (by simp [get, RepV]), h.objsR, h.low, h.inj, h.ghost⟩
 have hr' := hr.grow0 hg
 have ht := hg.turns0 hr
 exact ⟨hr'.below, h.base, hr'.nodef, h.size, fun t => RepV.mono ht _ _ (h.tmps t), hr'.objs, h.low, h.inj, hr'.ghost⟩

def only (L : List Nat) (f : Nat → V) : Nat → V := fun t => if L.contains t then f t else .dead
theorem RelF.only (h : RelF B w0 S0 φ nt objs gs th f a w) (L : List Nat) : RelF B w0 S0 φ nt objs gs th (PW.only L f) a w :=
 ⟨h.below, h.base, h.nodef, h.size, fun t => by simp only [PW.only]; split; exact h.tmps t; simp [RepV], h.objsR, h.low, h.inj, h.ghost⟩
theorem RelF.noGs (h : RelF B w0 S0 φ nt objs gs th f a w) : RelF B w0 S0 φ nt objs (0, []) (fun _ _ => True, true) f a w := ⟨h.below, h.base, h.nodef.least, h.size, h.tmps, h.objsR, h.low, h.inj, Nat.zero_le _, fun x hx => by simp at hx⟩

theorem get_keep_in (K : List Nat) (l : List (Nat × V)) (t : Nat) (h : K.contains t = true) : get (G2 K l) t = get l t := by
 induction l with
 | nil => rfl
 | cons x l ih =>
  obtain ⟨s, v⟩ := x
  simp only [G2]
  split
  ·
   simp only [get]; split
   · rfl
   · exact ih
  ·
   rename_i hs
   simp only [get]
   rw [if_neg (by rintro rfl; exact hs h)]
   exact ih
theorem q3 (K : List Nat) (l : List (Nat × V)) : get (G2 K l) = PW.only K (get l) := by
 funext t
 simp only [PW.only]
 split
 · rename_i h; exact get_keep_in K l t h
 · rename_i h; exact get_keep_out K l t h

def Yields (P : Program) (ops : Array Oper) (o : Oper) (nt : Nat) (objs : List Ob) (f : Nat → V) (r : V) : Prop :=
 okD' nt o.dst ∧ ∀ B w0 S0 φ a w, RelF B w0 S0 φ nt objs (0, []) (fun _ _ => True, true) (only (o.looksAt ops) f) a w →
  (Region.wanted o (yielded ops a.tmps) = true ∧ ((∃ v w', (execOp a.eval o).run P w = .ok (.value v) w' ∧ Grows w w' ∧ RepV w' (Imm B S0 φ objs.length) φ objs.length r v) ∨
   ∃ g us, (execOp a.eval o).run P w = .ok (.enter g us) w ∧ Calls P g us w fun e w' => ∃ v, e = .returned v ∧ Grows w w' ∧ RepV w' (Imm B S0 φ objs.length) φ objs.length r v)) ∨
  (Region.wanted o (yielded ops a.tmps) = false ∧ RepV w (Imm B S0 φ objs.length) φ objs.length r undef)

variable {P : Program} {ops : Array Oper} {md : Region.Mode}

def aOp (P : Program) (ops : Array Oper) (nt : Nat) (objs : List Ob) (i : Nat) (K : (Nat → V) → Prop) (f : Nat → V) : Prop :=
 match ops[i]? with
 | none => K f
 | some o => ∃ r, Yields P ops o nt objs f r ∧ K (putF f o.dst r)

theorem aOp_mono {i : Nat} {f : Nat → V} {K K' : (Nat → V) → Prop} (h : ∀ f, K f → K' f) (hh : aOp P ops nt objs i K f) : aOp P ops nt objs i K' f := by
 unfold aOp at *
 split
 · rename_i ho; simp only [ho] at hh; exact h _ hh
 · rename_i o ho; simp only [ho] at hh; obtain ⟨r, h1, h2⟩ := hh; exact ⟨r, h1, h _ h2⟩

def aAnyL (P : Program) (md : Region.Mode) (ops : Array Oper) (nt : Nat) (objs : List Ob) (n : Nat) (L : Array Bool → (Nat → V) → Prop) : Nat → Array Bool → (Nat → V) → Prop
 | 0, listed, f => L listed f
 | k + 1, listed, f => Region.ready md ops listed ≠ [] ∧ ∀ i ∈ Region.ready md ops listed, i < n ∧ aOp P ops nt objs i (aAnyL P md ops nt objs n L k (listed.setIfInBounds i true)) f

theorem only_put {L : List Nat} {d : Option Nat} {r : V} (h : ∀ t, d = some t → L.contains t = false) : only L (putF f d r) = only L f := by
 cases d with
 | none => rfl
 | some d =>
  funext t
  simp only [only, putF]
  by_cases ht : t = d
  · subst ht; rw [h t rfl]; rfl
  · simp [ht]

theorem apart_dst {x y : Oper} (h : x.apart ops y = true) : (∀ t, x.dst = some t → (y.looksAt ops).contains t = false ∧ y.dst ≠ some t) ∧ (∀ t, y.dst = some t → (x.looksAt ops).contains t = false) := by
 unfold Oper.apart at h
 simp only [Bool.and_eq_true] at h
 constructor
 ·
  intro t ht
  rw [ht] at h
  simp only [Bool.and_eq_true, Bool.not_eq_true', bne_iff_ne] at h
  exact h.1
 ·
  intro t ht
  rw [ht] at h
  simpa using h.2

theorem putF_comm {d e : Option Nat} {r s : V} (h : ∀ t, d = some t → e ≠ some t) : putF (putF f d r) e s = putF (putF f e s) d r := by
 cases d with
 | none => rfl
 | some d =>
  cases e with
  | none => rfl
  | some e =>
   funext t
   simp only [putF]
   have : e ≠ d := fun he => h d rfl (by rw [he])
   by_cases h1 : t = e
   · subst h1; simp [this]
   · simp [h1]

theorem aOp_put {j : Nat} {oi oj : Oper} {r : V} (hj : ops[j]? = some oj) (hap : oi.apart ops oj = true) {K : (Nat → V) → Prop} (hy : Yields P ops oi nt objs f r) (h : aOp P ops nt objs j K (putF f oi.dst r)) :
  aOp P ops nt objs j (fun f' => Yields P ops oi nt objs f' r ∧ K (putF f' oi.dst r)) f := by
 obtain ⟨h1, h2⟩ := apart_dst hap
 unfold aOp at *
 simp only [hj] at *
 obtain ⟨s, hs, hK⟩ := h
 refine ⟨s, ?_, ?_, ?_⟩
 ·
  unfold Yields at hs ⊢
  rwa [only_put fun t ht => (h1 t ht).1] at hs
 ·
  unfold Yields at hy ⊢
  rwa [only_put fun t ht => h2 t ht]
 · rwa [putF_comm fun t ht => fun e => (h1 t e).2 ht]

theorem aAnyL_first {n i : Nat} {oi : Oper} {r : V} {L : Array Bool → (Nat → V) → Prop} (hi : ops[i]? = some oi)
  (hs : Region.sinkB md ops n = true) (hc : Region.chainB md ops n = true) (hn : n < ops.size) (hin : i < n)
  (hdone : ∀ listed f, L listed f → ∀ j ∈ Region.ready md ops listed, n ≤ j) :
  ∀ (k : Nat) (listed : Array Bool) (f : Nat → V), HeadInv md ops n listed →
   (∀ j oj, ops[j]? = some oj → j ≠ i → listed.getD j true = false → (∀ e ∈ oj.after, Region.binds md e = true → e.on ≠ i) → oi.apart ops oj = true) →
   i ∈ Region.ready md ops listed → Yields P ops oi nt objs f r →
   aAnyL P md ops nt objs n L k (listed.setIfInBounds i true) (putF f oi.dst r) → aAnyL P md ops nt objs n L (k + 1) listed f := by
 intro k
 have put : ∀ (f : Nat → V) (K : (Nat → V) → Prop), Yields P ops oi nt objs f r → K (putF f oi.dst r) → aOp P ops nt objs i K f := by
  intro f K hy hK; unfold aOp; simp only [hi]; exact ⟨r, hy, hK⟩
 induction k with
 | zero =>
  intro listed f inv _ hr hy H
  have hun := (mem_ready.1 hr).1
  refine ⟨fun h => (by rw [h] at hr; cases hr), fun j hj => ?_⟩
  have hjn : j < n := by
   rcases Nat.lt_or_ge j n with h | h
   · exact h
   · exact absurd hj (tail_waits hs hc hn inv _ i rfl hin hun j h)
  refine ⟨hjn, ?_⟩
  by_cases hji : j = i
  · subst hji; exact put _ _ hy H
  ·
   have := hdone _ _ H j (ready_mono hj hji)
   omega
 | succ k ih =>
  intro listed f inv hfree hr hy H
  have hun := (mem_ready.1 hr).1
  refine ⟨fun h => (by rw [h] at hr; cases hr), fun j hj => ?_⟩
  have hjn : j < n := by
   rcases Nat.lt_or_ge j n with h | h
   · exact h
   · exact absurd hj (tail_waits hs hc hn inv _ i rfl hin hun j h)
  refine ⟨hjn, ?_⟩
  by_cases hji : j = i
  · subst hji; exact put _ _ hy H
  ·
   have h1 := (H.2 j (ready_mono hj hji)).2
   obtain ⟨hjun, oj, hoj, hall⟩ := mem_ready.1 hj
   have hnot : ∀ e ∈ oj.after, Region.binds md e = true → e.on ≠ i := fun e he hb heq => by
    have h1 := hall e he hb
    rw [heq, getD_both hun] at h1
    cases h1
   have h2 := aOp_put hoj (hfree j oj hoj hji hjun hnot) hy h1
   have hfree' : ∀ k ok, ops[k]? = some ok → k ≠ i → (listed.setIfInBounds j true).getD k true = false →
     (∀ e ∈ ok.after, Region.binds md e = true → e.on ≠ i) → oi.apart ops ok = true := fun k ok hk hki hun hno => by
    refine hfree k ok hk hki ?_ hno
    by_cases hjk : j = k
    · subst hjk; exact hjun
    · rw [getD_set_ne true hjk] at hun; exact hun
   refine aOp_mono (fun f' h3 => ih (listed.setIfInBounds j true) f' (inv.set hj hjn) hfree' (ready_mono hr (Ne.symm hji)) h3.1 ?_) h2
   rw [Array.setIfInBounds_comm _ _ hji]
   exact h3.2

theorem E3 {ro : Option Nat} {gs : Nat × List (V × Value × Nat)} {th : (Nat → World → Prop) × Bool} {n g : Nat} {L : Array Bool → (Nat → V) → Prop} {Q' : Exit → Act → World → Prop} (B : Nat) (w0 : World) (S0 : Nat → Prop)
  (hL : ∀ listed f φ a w, L listed f → RelF B w0 S0 φ nt objs gs th f a w → wpAnyIn (Fd ro) 1 P md ops Q' g listed a w) :
  ∀ (k : Nat) (listed : Array Bool) (f : Nat → V), aAnyL P md ops nt objs n L k listed f → ∀ φ a w, RelF B w0 S0 φ nt objs gs th f a w → wpAnyIn (Fd ro) 1 P md ops Q' (k + g) listed a w
 | 0, listed, f, h, φ, a, w, hr => by rw [Nat.zero_add]; exact hL _ _ _ _ _ h hr
 | k + 1, listed, f, h, φ, a, w, hr => by
  rw [show k + 1 + g = (k + g) + 1 by omega]
  refine ⟨fun h0 => absurd h0 h.1, fun i hi => ?_⟩
  have ha := (h.2 i hi).2
  unfold aOp at ha
  unfold wpOpIn
  split
  · rename_i ho; simp only [ho] at ha; exact E3 B w0 S0 hL k _ _ ha _ _ _ hr
  ·
   rename_i o ho
   simp only [ho] at ha
   obtain ⟨r, ⟨hd, hy⟩, hK⟩ := ha
   rcases hy _ _ _ _ _ _ (hr.noGs.only _) with ⟨hw, hy⟩ | ⟨hw, hy⟩
   ·
    rw [if_pos hw]
    rcases hy with ⟨v, w', hv, hg, hrep⟩ | ⟨gf, us, hex, hcalls⟩
    · exact B3 hv (E3 B w0 S0 hL k _ _ hK _ _ _ ((hr.grow hg).put o.dst hd hrep))
    ·
     refine wp_enter hex (hcalls.mono ?_)
     rintro e w' ⟨v, rfl, hg, hrep⟩
     exact ⟨v, rfl, E3 B w0 S0 hL k _ _ hK _ _ _ ((hr.grow hg).put o.dst hd hrep)⟩
   ·
    rw [if_neg (by rw [hw]; simp)]
    exact ⟨fun _ _ => trivial, E3 B w0 S0 hL k _ _ hK _ _ _ (hr.put o.dst hd hy)⟩
end
end Go.PW
