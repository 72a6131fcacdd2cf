import Derived.Test.YtbndgoeahoadlaaGreatDoorPlA
set_option linter.all false
namespace Go.PW
open Go.RowKit

theorem wrap_w64 (n : Int) : IntKind.i64.wrap n = w64 n := by rw [IntKind.wrap_i64, w64_eq]
theorem wrap_wu64 (n : Int) : IntKind.u64.wrap n = wu64 n := by simp [IntKind.wrap, wu64_eq, IntKind.signed, IntKind.bits]
theorem bits_i64 : IntKind.i64.bits = 64 := rfl
theorem bits_u64 : IntKind.u64.bits = 64 := rfl
theorem wrap_wu8 (n : Int) : IntKind.u8.wrap n = wu8 n := by simp [IntKind.wrap, wu8_eq, IntKind.signed, IntKind.bits]
theorem wrap_wu32 (n : Int) : IntKind.u32.wrap n = wu32 n := by simp [IntKind.wrap, wu32_eq, IntKind.signed, IntKind.bits]
theorem wrap_wi32 (n : Int) : IntKind.i32.wrap n = wi32 n := by
 simp only [IntKind.wrap, wi32_eq, IntKind.signed, IntKind.bits]; simp; omega
theorem bit_and (a b : Int) : bitI .and .i64 a b = andI a b := by unfold bitI andI; rw [wrap_w64]; rfl
theorem bit_or (a b : Int) : bitI .or .i64 a b = orI a b := by unfold bitI orI; rw [wrap_w64]; rfl
theorem bit_xor (a b : Int) : bitI .xor .i64 a b = xorI a b := by unfold bitI xorI; rw [wrap_w64]; rfl
theorem shl_w (a b : Int) : w64 (a * 2 ^ (min b.toNat 64)) = shlI a b := rfl
theorem shr_w (a b : Int) : a.fdiv (2 ^ (min b.toNat 64)) = shrI a b := rfl

def asD : V → D
 | .d x => nz x
 | _ => default
def V.frz (objs : List Ob) (j : Nat) : V → V
 | .own i off n sz => if i = j then .d (.list n (seg ((cellsOf objs j).map asD) off (n * sz))) else .own i off n sz
 | .ptr i off => if i = j then .d (.ref (((cellsOf objs j).map asD).drop off)) else .ptr i off
 | .slf i => if i = j then .dead else .slf i
 | .agg cells => .agg (frzs objs j cells)
 | .clo f caps => .clo f (frzs objs j caps)
 | .tup vs => .tup (frzs objs j vs)
 | .guarded c r => .guarded c (r.frz objs j)
 | v => v
where
 frzs (objs : List Ob) (j : Nat) : List V → List V
 | [] => []
 | v :: vs => v.frz objs j :: frzs objs j vs
theorem V.frzs_eq (objs : List Ob) (j : Nat) : ∀ l, V.frz.frzs objs j l = l.map (V.frz objs j)
 | [] => rfl
 | v :: vs => by simp [V.frz.frzs, V.frzs_eq objs j vs]
def frzOb (objs : List Ob) (j : Nat) (ob : Ob) : Ob := { ob with cells := ob.cells.map (V.frz objs j) }
def Env.frz (env : Env) (j : Nat) : Env :=
 match env.objs[j]? with
 | some ob => { env with tmps := env.tmps.map fun x => (x.1, x.2.frz env.objs j), objs := (env.objs.map (frzOb env.objs j)).set j ⟨[], ob.e⟩ }
 | none => env

theorem get_map_frz (l : List (Nat × V)) (objs : List Ob) (j t : Nat) : get (l.map fun x => (x.1, x.2.frz objs j)) t = (get l t).frz objs j := by
 induction l with
 | nil => simp [get, V.frz]
 | cons x l ih =>
  obtain ⟨s, v⟩ := x
  simp only [List.map_cons, get]
  split
  · rfl
  · exact ih

def φdrop (φ : Nat → Option Nat) (j : Nat) : Nat → Option Nat := fun i => if i = j then none else φ i
theorem φdrop_ne (φ : Nat → Option Nat) {i j : Nat} (h : i ≠ j) : φdrop φ j i = φ i := by simp [φdrop, h]
theorem φdrop_some {φ : Nat → Option Nat} {i j g : Nat} (h : φdrop φ j i = some g) : i ≠ j ∧ φ i = some g := by
 unfold φdrop at h
 split at h
 · cases h
 · exact ⟨‹_›, h⟩

section
variable {w : World} {S S' : Nat → Prop} {φ : Nat → Option Nat} {m j : Nat} {objs : List Ob}
def Shows (w : World) (S' : Nat → Prop) (φ : Nat → Option Nat) (objs : List Ob) (j : Nat) : Prop :=
 (φ j = none ∧ cellsOf objs j = []) ∨ ∃ g, φ j = some g ∧ RepCells w S' ((cellsOf objs j).map asD) g 0
mutual
theorem RepV.frz (hk : Keeps w S w S') (hs : Shows w S' φ objs j) : ∀ (d : V) (v : Value), RepV w S φ m d v → RepV w S' (φdrop φ j) m (d.frz objs j) v
 | .d x, v, hv => by simp only [V.frz, RepV] at hv ⊢; exact RepD.mono hk x v hv
 | .own i off n sz, v, hv => by
  simp only [V.frz]
  split
  ·
   rename_i hij
   subst hij
   simp only [RepV] at hv ⊢
   obtain ⟨_, hv⟩ := hv
   simp only [RepD]
   rcases hv with ⟨a, rfl, rfl, _⟩ | ⟨g, cap, cur, e, hg, rfl, hn, _, _, _⟩
   · exact ⟨a, 0, rfl, Nat.le_refl _, .inl (by simp [seg])⟩
   ·
    rcases hs with ⟨h1, _⟩ | ⟨g', hg', hr⟩
    · rw [h1] at hg; cases hg
    ·
     rw [hg'] at hg
     cases hg
     refine ⟨some ⟨g, off, none⟩, cap, rfl, hn, .inr ⟨g, off, rfl, ?_⟩⟩
     have h1 := RepCells.drop _ _ _ off hr
     rw [Nat.zero_add] at h1
     exact RepCells.take _ _ _ (n * sz) h1
  ·
   rename_i hij
   simp only [RepV] at hv ⊢
   obtain ⟨hi, hv⟩ := hv
   refine ⟨hi, hv.imp id ?_⟩
   rintro ⟨g, cap, cur, e, hg, rfl, h⟩
   exact ⟨g, cap, cur, e, (φdrop_ne φ hij).trans hg, rfl, h⟩
 | .ptr i off, v, hv => by
  simp only [V.frz]
  split
  ·
   rename_i hij
   subst hij
   simp only [RepV] at hv ⊢
   obtain ⟨_, g, hg, rfl⟩ := hv
   simp only [RepD]
   rcases hs with ⟨h1, _⟩ | ⟨g', hg', hr⟩
   · rw [h1] at hg; cases hg
   ·
    rw [hg'] at hg
    cases hg
    have h1 := RepCells.drop _ _ _ off hr
    rw [Nat.zero_add] at h1
    exact ⟨g, off, rfl, h1⟩
  ·
   rename_i hij
   simp only [RepV] at hv ⊢
   obtain ⟨hi, g, hg, rfl⟩ := hv
   exact ⟨hi, g, (φdrop_ne φ hij).trans hg, rfl⟩
 | .agg cells, v, hv => by
  simp only [V.frz, RepV] at hv ⊢
  obtain ⟨vs, rfl, hr⟩ := hv
  exact ⟨vs, rfl, RepVs.frz hk hs cells vs hr⟩
 | .clo f caps, v, hv => by
  simp only [V.frz, RepV] at hv ⊢
  obtain ⟨vs, rfl, hr⟩ := hv
  exact ⟨vs, rfl, RepVs.frz hk hs caps vs hr⟩
 | .tup vs, v, hv => by
  simp only [V.frz, RepV] at hv ⊢
  obtain ⟨us, rfl, hr⟩ := hv
  exact ⟨us, rfl, RepVs.frz hk hs vs us hr⟩
 | .guarded c r, v, hv => by simp only [V.frz, RepV] at hv ⊢; exact ⟨fun hc => RepV.frz hk hs r v (hv.1 hc), hv.2⟩
 | .dead, _, _ => by simp [V.frz, RepV]
 | .emp, _, hv => by simpa only [V.frz, RepV] using hv
 | .bnd f x, v, hv => by simp only [V.frz, RepV] at hv ⊢; obtain ⟨u, e, hr⟩ := hv; exact ⟨u, e, RepD.mono hk x u hr⟩
 | .slf i, v, hv => by
  simp only [V.frz]
  split
  · simp [RepV]
  ·
   rename_i hij
   simp only [RepV] at hv ⊢
   obtain ⟨hi, g, cur, e, hg, hv⟩ := hv
   exact ⟨hi, g, cur, e, (φdrop_ne φ hij).trans hg, hv⟩
theorem RepVs.frz (hk : Keeps w S w S') (hs : Shows w S' φ objs j) : ∀ (ds : List V) (vs : List Value), RepVs w S φ m ds vs → RepVs w S' (φdrop φ j) m (V.frz.frzs objs j ds) vs
 | [], vs, hv => by simpa [RepVs, V.frz.frzs] using hv
 | d :: ds, vs, hv => by
  simp only [RepVs, V.frz.frzs] at hv ⊢
  obtain ⟨v, vs', rfl, hr, ht⟩ := hv
  exact ⟨v, vs', rfl, RepV.frz hk hs d v hr, RepVs.frz hk hs ds vs' ht⟩
end
theorem RepV.frzLow (hk : Keeps w S w S') {l : Nat} (hl : l ≤ j) : (d : V) → (v : Value) → RepV w S φ l d v → RepV w S' (φdrop φ j) l d v := fun d v h =>
 RepV.mono (w := w) (w' := w) (φ := φ) (φ' := φdrop φ j) (m := l) (m' := l) ⟨hk, KeepsOthers.refl _, Nat.le_refl _, fun i hi _ => ⟨φdrop_ne φ (by omega), fun g hg cur e hc => ⟨cur, hc, rfl⟩⟩⟩ d v h
end

section
variable {ro : Option Nat} {P : Program} {B : Nat} {w0 : World} {S0 : Nat → Prop} {φ : Nat → Option Nat} {env : Env} {a : Act} {w : World}
theorem Rel.frz (h : Rel B w0 S0 φ env a w) (j : Nat) (hj : env.gs.1 ≤ j) (hd : (cellsOf env.objs j).all isD = true) : ∃ φ', Rel B w0 S0 φ' (env.frz j) a w := by
 unfold Env.frz
 cases hob : env.objs[j]? with
 | none => exact ⟨φ, h⟩
 | some ob =>
  have hjl : j < env.objs.length := (List.getElem?_eq_some_iff.1 hob).1
  have hlen : ((env.objs.map (frzOb env.objs j)).set j ⟨[], ob.e⟩).length = env.objs.length := by simp
  have hk : Keeps w (Imm B S0 φ env.objs.length) w (Imm B S0 (φdrop φ j) env.objs.length) := fun b o x hb hc => ⟨hc, hb.1, fun i hi e => hb.2 i hi (φdrop_some e).2⟩
  have hcells : cellsOf env.objs j = ob.cells := by simp [cellsOf, hob]
  have hs : Shows w (Imm B S0 (φdrop φ j) env.objs.length) φ env.objs j := by
   rcases h.objs j ob hob with ⟨h1, h2⟩ | ⟨g, cur, vals, rest, h1, h2, h3, h4⟩
   · exact .inl ⟨h1, by rw [hcells, h2]⟩
   ·
    refine .inr ⟨g, h1, ?_⟩
    rw [hcells]
    have hS : Imm B S0 (φdrop φ j) env.objs.length g := ⟨.inr (h.low j g hjl h1), fun i hi e => (φdrop_some e).1 (h.inj i j g hi hjl (φdrop_some e).2 h1)⟩
    refine F0 (w := w) hS (us := vals) (l8 asD _ _ h4 fun v hv u hu => ?_) fun k u hu => ?_
    ·
     rw [hcells] at hd
     have := List.all_eq_true.1 hd v hv
     cases v with
     | d x => simp only [asD]; refine nz_rep ?_; simp only [RepV] at hu; exact RepD.mono hk x u hu
     | _ => simp [isD] at this
    ·
     rw [p4 h2, Nat.zero_add]
     have : cur.toList[k]? = some u := by rw [h3, List.getElem?_append_left (List.getElem?_eq_some_iff.1 hu).1]; exact hu
     simpa using this
  refine ⟨φdrop φ j, h.below, h.base, h.nodef, h.size, fun t => ?_, ?_, ?_, ?_, ?_⟩
  · rw [hlen]; simp only [get_map_frz]; exact RepV.frz hk hs _ _ (h.tmps t)
  ·
   intro i ob' hi
   rw [hlen]
   by_cases hij : i = j
   ·
    subst hij
    rw [List.getElem?_set_self (by simpa using hjl)] at hi
    cases hi
    exact .inl ⟨by simp [φdrop], rfl⟩
   ·
    rw [List.getElem?_set_ne (Ne.symm hij), List.getElem?_map] at hi
    cases hq : env.objs[i]? with
    | none => simp [hq] at hi
    | some oq =>
     simp only [hq, Option.map_some, Option.some.injEq] at hi
     subst hi
     rcases h.objs i oq hq with ⟨h1, h2⟩ | ⟨g, cur, vals, rest, h1, h2, h3, h4⟩
     · exact .inl ⟨(φdrop_ne φ hij).trans h1, by simp [frzOb, h2]⟩
     ·
      refine .inr ⟨g, cur, vals, rest, (φdrop_ne φ hij).trans h1, h2, h3, ?_⟩
      simp only [frzOb]
      rw [← V.frzs_eq]; exact RepVs.frz hk hs _ _ h4
  · intro i g hi hg; rw [hlen] at hi; exact h.low i g hi (φdrop_some hg).2
  · intro i k g hi hk' h1 h2; rw [hlen] at hi hk'; exact h.inj i k g hi hk' (φdrop_some h1).2 (φdrop_some h2).2
  ·
   rw [hlen]
   exact ⟨h.ghost.1, fun x hx => ⟨(h.ghost.2 x hx).1, RepV.frzLow hk (Nat.le_trans (h.ghost.2 x hx).1 hj) _ _ (h.ghost.2 x hx).2⟩⟩

variable {Q : Exit → Env → Prop} {c : Code}
theorem PW.frz (j : Nat) (hj : env.gs.1 ≤ j) (hd : (cellsOf env.objs j).all isD = true) (h : PW ro P c Q (env.frz j)) : PW ro P c Q env := by
 intro B w0 S0 φ a w hr
 obtain ⟨φ', hr'⟩ := hr.frz j hj hd
 exact h B w0 S0 φ' a w hr'
theorem OW.frz {all l : List Oper} {K : Env → Prop} (j : Nat) (hj : env.gs.1 ≤ j) (hd : (cellsOf env.objs j).all isD = true) (h : OW ro P all l (env.frz j) K) : OW ro P all l env K := by
 intro B w0 S0 φ a w Q hr hK
 obtain ⟨φ', hr'⟩ := hr.frz j hj hd
 exact h B w0 S0 φ' a w Q hr' hK
end

def Env.frzL : List Nat → Env → Env
 | [], e => e
 | j :: js, e => (e.frz j).frzL js
def Env.frzOK : List Nat → Env → Prop
 | [], _ => True
 | j :: js, e => (e.gs.1 ≤ j ∧ (cellsOf e.objs j).all isD = true) ∧ (e.frz j).frzOK js
theorem Rel.frzL {B : Nat} {w0 : World} {S0 : Nat → Prop} {a : Act} {w : World} : ∀ (js : List Nat) {φ : Nat → Option Nat} {env : Env}, Rel B w0 S0 φ env a w → env.frzOK js → ∃ φ', Rel B w0 S0 φ' (env.frzL js) a w
 | [], φ, _, h, _ => ⟨φ, h⟩
 | j :: js, _, _, h, hk => by
  obtain ⟨φ1, h1⟩ := h.frz j hk.1.1 hk.1.2
  exact Rel.frzL js h1 hk.2

section
variable {ro : Option Nat} {P : Program} {Q : Exit → Env → Prop} {c : Code} {env : Env} {σ R τ : Type}
theorem C7 (S : List Nat) (m : Nat) (u : σ → List (Nat × V)) (o : σ → List Ob) (b : (σ → Option R) → σ → Option R) (r : R) (n₀ : Nat) (s₀ : σ) (hgm : env.gs.1 ≤ m) (hrun : rds b n₀ s₀ = some r)
  (h₀ : env.fit S m = ⟨env.nt, putAll (env.fit S m).tmps (u s₀), o s₀, env.gs, env.th⟩)
  (round : ∀ n s, b (rds b n) s = some r → ∀ N : Env → Prop, (∀ (js : List Nat) s' env', rds b n s' = some r → env'.frzOK js → (env'.frzL js).fit S m = ⟨env.nt, putAll (env.fit S m).tmps (u s'), o s', env.gs, env.th⟩ → N env') →
   PW ro P c (andThen N Q) ⟨env.nt, putAll (env.fit S m).tmps (u s), o s, env.gs, env.th⟩) : PW ro P (.loop c) Q env := by
 refine PW.fit S m hgm ?_
 rw [h₀]
 refine PW.loopOf (σ := Nat × σ) (fun s => ⟨env.nt, putAll (env.fit S m).tmps (u s.2), o s.2, env.gs, env.th⟩) (fun s => rds b s.1 s.2 = some r) (fun s => s.1) (n₀, s₀) rfl hrun fun ns hs => ?_
 obtain ⟨n, s⟩ := ns
 cases n with
 | zero => cases hs
 | succ n =>
  intro B w0 S0 φ a w hr
  refine wpIn_mono (round n s hs (fun env' => ∃ js s', rds b n s' = some r ∧ env'.frzOK js ∧ (env'.frzL js).fit S m = ⟨env.nt, putAll (env.fit S m).tmps (u s'), o s', env.gs, env.th⟩) (fun js s' env' h1 h2 h3 => ⟨js, s', h1, h2, h3⟩) B w0 S0 φ a w hr) ?_
  rintro e a' w' ⟨env', φ', hq, hr'⟩
  cases e with
  | normal =>
   obtain ⟨js, s', h1, h2, h3⟩ := hq
   obtain ⟨φ2, hr2⟩ := hr'.frzL js h2
   have hg : (env'.frzL js).gs.1 ≤ m := by
    have := congrArg (fun e => e.gs.1) h3
    simp only [Env.fit] at this
    rw [this]; exact hgm
   exact ⟨_, φ2, ⟨(n, s'), rfl, h1, Nat.lt_succ_self n⟩, h3 ▸ hr2.fit S m hg⟩
  | _ => exact ⟨env', φ', hq, hr'⟩

theorem k5 {x y : Code} (S : List Nat) (m : Nat) (u : τ → List (Nat × V)) (o : τ → List Ob) (rest : τ → Option R) (k : (τ → Option R) → Option R) (r : R) (hgm : env.gs.1 ≤ m) (hrun : jn rest k = some r)
  (hx : ∀ j : τ → Option R, k j = some r → ∀ N : Env → Prop, (∀ (js : List Nat) t env', j t = some r → env'.frzOK js → (env'.frzL js).fit S m = ⟨env.nt, putAll (env.fit S m).tmps (u t), o t, env.gs, env.th⟩ → N env') → PW ro P x (andThen N Q) env)
  (hy : ∀ t, rest t = some r → PW ro P y Q ⟨env.nt, putAll (env.fit S m).tmps (u t), o t, env.gs, env.th⟩) : PW ro P (.seq x y) Q env := by
 refine b7 ?_
 intro B w0 S0 φ a w hr
 refine wpIn_mono (hx rest hrun (fun env' => ∃ js t, rest t = some r ∧ env'.frzOK js ∧ (env'.frzL js).fit S m = ⟨env.nt, putAll (env.fit S m).tmps (u t), o t, env.gs, env.th⟩) (fun js t env' h1 h2 h3 => ⟨js, t, h1, h2, h3⟩) B w0 S0 φ a w hr) ?_
 rintro e a' w' ⟨env', φ', hq, hr'⟩
 cases e with
 | normal =>
  obtain ⟨js, t, h1, h2, h3⟩ := hq
  obtain ⟨φ2, hr2⟩ := hr'.frzL js h2
  have hg : (env'.frzL js).gs.1 ≤ m := by
   have := congrArg (fun e => e.gs.1) h3
   simp only [Env.fit] at this
   rw [this]; exact hgm
  exact ⟨_, φ2, hy t h1, h3 ▸ hr2.fit S m hg⟩
 | _ => exact ⟨env', φ', hq, hr'⟩

end
end Go.PW
