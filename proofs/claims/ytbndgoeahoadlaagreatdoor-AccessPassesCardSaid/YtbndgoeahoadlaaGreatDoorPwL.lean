import Derived.Test.YtbndgoeahoadlaaGreatDoorPwK
set_option linter.all false
namespace Go.PW
open Go.RowKit

def nz : D → D
 | .val (.slice none 0 0) => .list 0 []
 | x => x

def toD (objs : List Ob) : Nat → V → D
 | _, .d x => nz x
 | k + 1, .own i off n sz => .list n ((seg (cellsOf objs i) off (n * sz)).map (toD objs k))
 | k + 1, .ptr i off => .ref (((cellsOf objs i).drop off).map (toD objs k))
 | k + 1, .clo f caps => .clo f (caps.map (toD objs k))
 | k + 1, .agg vs => .agg (vs.map (toD objs k))
 | k + 1, .tup vs => .tup (vs.map (toD objs k))
 | _, _ => .val undef

def okD (objs : List Ob) : Nat → V → Prop
 | _, .d _ => True
 | k + 1, .own i off n sz => off + n * sz ≤ (cellsOf objs i).length ∧ ∀ v ∈ seg (cellsOf objs i) off (n * sz), okD objs k v
 | k + 1, .ptr i off => ∀ v ∈ (cellsOf objs i).drop off, okD objs k v
 | k + 1, .clo _ caps => ∀ v ∈ caps, okD objs k v
 | k + 1, .agg vs => ∀ v ∈ vs, okD objs k v
 | k + 1, .tup vs => ∀ v ∈ vs, okD objs k v
 | _, _ => False

def isD : V → Bool
 | .d _ => true
 | _ => false

def noO : V → Bool
 | .d _ => true
 | .agg vs => noOs vs
 | .tup vs => noOs vs
 | .clo _ caps => noOs caps
 | _ => false
where
 noOs : List V → Bool
 | [] => true
 | v :: vs => noO v && noOs vs
theorem noOs_all : ∀ vs, noO.noOs vs = true → ∀ v ∈ vs, noO v = true
 | [], _, v, hv => by simp at hv
 | x :: vs, h, v, hv => by
  simp only [noO.noOs, Bool.and_eq_true] at h
  rcases List.mem_cons.1 hv with rfl | hv
  · exact h.1
  · exact noOs_all vs h.2 v hv

section
variable {P : Program} {B : Nat} {w0 : World} {S0 : Nat → Prop} {φ : Nat → Option Nat} {env : Env} {a : Act} {w : World}

theorem nz_rep {S : Nat → Prop} {x : D} {v : Value} (h : RepD w S x v) : RepD w S (nz x) v := by
 unfold nz
 split
 · simp only [RepD] at h ⊢; subst h; exact ⟨none, 0, by simp⟩
 · exact h

theorem l8 {S : Nat → Prop} {m : Nat} {S' : Nat → Prop} (f : V → D) : ∀ (vs : List V) (us : List Value), RepVs w S φ m vs us → (∀ v ∈ vs, ∀ u, RepV w S φ m v u → RepD w S' (f v) u) → RepAll w S' (vs.map f) us
 | [], us, h, _ => by simpa [RepVs, RepAll] using h
 | v :: vs, us, h, hf => by
  simp only [RepVs] at h
  obtain ⟨u, us', rfl, hr, ht⟩ := h
  simp only [List.map_cons, RepAll]
  exact ⟨u, us', rfl, hf v (by simp) u hr, l8 f vs us' ht fun x hx => hf x (by simp [hx])⟩

theorem noO_rep {S : Nat → Prop} {m : Nat} {objs : List Ob} : ∀ (k : Nat) (v : V) (u : Value), RepV w S φ m v u → noO v = true → okD objs k v → RepD w S (toD objs k v) u := by
 intro k
 induction k with
 | zero =>
  intro v u hv hn hok
  cases v with
  | d x => simp only [toD]; exact nz_rep hv.repD
  | _ => simp only [okD] at hok
 | succ k ih =>
  intro v u hv hn hok
  cases v with
  | d x => simp only [toD]; exact nz_rep hv.repD
  | agg cells =>
   simp only [okD] at hok
   simp only [noO] at hn
   simp only [RepV] at hv
   obtain ⟨vs, rfl, hr⟩ := hv
   simp only [toD, RepD]
   exact ⟨vs, rfl, l8 _ _ _ hr fun v hv u hu => ih v u hu (noOs_all _ hn v hv) (hok v hv)⟩
  | clo f caps =>
   simp only [okD] at hok
   simp only [noO] at hn
   simp only [RepV] at hv
   obtain ⟨vs, rfl, hr⟩ := hv
   simp only [toD, RepD]
   exact ⟨vs, rfl, l8 _ _ _ hr fun v hv u hu => ih v u hu (noOs_all _ hn v hv) (hok v hv)⟩
  | tup ds =>
   simp only [okD] at hok
   simp only [noO] at hn
   simp only [RepV] at hv
   obtain ⟨vs, rfl, hr⟩ := hv
   simp only [toD, RepD]
   exact ⟨vs, rfl, l8 _ _ _ hr fun v hv u hu => ih v u hu (noOs_all _ hn v hv) (hok v hv)⟩
  | _ => simp [noO] at hn

theorem F0 {S' : Nat → Prop} {g off : Nat} {ds : List D} {us : List Value} (hS : S' g) (h : RepAll w S' ds us) (hc : ∀ j u, us[j]? = some u → w.cell? ⟨g, off + j, none⟩ = some u) : RepCells w S' ds g off := by
 induction ds generalizing us off with
 | nil => simp [RepCells]
 | cons d ds ih =>
  simp only [RepAll] at h
  obtain ⟨u, us', rfl, hr, ht⟩ := h
  simp only [RepCells]
  refine ⟨⟨hS, u, by simpa using hc 0 u rfl, hr⟩, ih ht fun j x hx => ?_⟩
  have := hc (j + 1) x (by simpa using hx)
  rwa [show off + (j + 1) = off + 1 + j by omega] at this

theorem toD_rep (h : Rel B w0 S0 φ env a w) {S' : Nat → Prop} (hI : ∀ b, Imm B S0 φ env.objs.length b → S' b) (hO : ∀ i g, i < env.objs.length → φ i = some g → S' g) :
  ∀ (k : Nat) (v : V) (u : Value), RepV w (Imm B S0 φ env.objs.length) φ env.objs.length v u → okD env.objs k v → RepD w S' (toD env.objs k v) u := by
 have hd : ∀ (x : D) (u : Value), RepV w (Imm B S0 φ env.objs.length) φ env.objs.length (.d x) u → RepD w S' (nz x) u := fun x u hx =>
  nz_rep (RepD.mono (w' := w) (S' := S') (fun b o y hb hy => ⟨hy, hI b hb⟩) x u hx.repD)
 intro k
 induction k with
 | zero =>
  intro v u hv hok
  cases v with
  | d x => simp only [toD]; exact hd x u hv
  | _ => simp only [okD] at hok
 | succ k ih =>
  intro v u hv hok
  have hcells : ∀ i g, i < env.objs.length → φ i = some g → ∃ cur e vals rest, w.heap[g]? = some (.cells cur e (0, 0)) ∧ cur.toList = vals ++ rest ∧ RepVs w (Imm B S0 φ env.objs.length) φ env.objs.length (cellsOf env.objs i) vals := by
   intro i g hi hg
   have hob : env.objs[i]? = some env.objs[i] := by simp [hi]
   unfold cellsOf
   rw [hob]
   rcases h.objs i _ hob with ⟨h0, _⟩ | ⟨g', cur, vals, rest, hg', hh, hcur, hvs⟩
   · rw [hg] at h0; cases h0
   · rw [hg] at hg'; cases hg'; exact ⟨cur, _, vals, rest, hh, hcur, hvs⟩
  cases v with
  | d x => simp only [toD]; exact hd x u hv
  | own i off n sz =>
   simp only [okD] at hok
   simp only [toD, RepD]
   simp only [RepV] at hv
   obtain ⟨hi, ⟨ad, rfl, rfl, _⟩ | ⟨g, cap, cur, e, hg, rfl, hn, hm, hh, hroom⟩⟩ := hv
   · exact ⟨ad, 0, rfl, Nat.le_refl _, .inl (by simp [seg])⟩
   ·
    refine ⟨_, _, rfl, hn, .inr ⟨g, off, rfl, ?_⟩⟩
    obtain ⟨cur', e', vals, rest, hh', hcur, hvs⟩ := hcells i g hi hg
    have hvl := RepVs.length _ _ hvs
    refine F0 (hO i g hi hg) (l8 _ _ _ (hvs.seg off (n * sz)) fun v hv u hu => ih v u hu (hok.2 v hv)) fun j u hu => ?_
    have hj : j < n * sz := by
     have := (List.getElem?_eq_some_iff.1 hu).1
     simp only [seg, List.length_take] at this; omega
    rw [seg, List.getElem?_take, if_pos hj, List.getElem?_drop] at hu
    rw [p4 hh', ← Array.getElem?_toList, hcur, List.getElem?_append_left (by omega)]
    exact hu
  | ptr i off =>
   simp only [okD] at hok
   simp only [toD, RepD]
   simp only [RepV] at hv
   obtain ⟨hi, g, hg, rfl⟩ := hv
   refine ⟨g, off, rfl, ?_⟩
   obtain ⟨cur', e', vals, rest, hh', hcur, hvs⟩ := hcells i g hi hg
   have hvl := RepVs.length _ _ hvs
   have hdr : RepVs w (Imm B S0 φ env.objs.length) φ env.objs.length ((cellsOf env.objs i).drop off) (vals.drop off) := by
    have := hvs.seg off (cellsOf env.objs i).length
    simpa [seg, List.take_of_length_le, hvl] using this
   refine F0 (hO i g hi hg) (l8 _ _ _ hdr fun v hv u hu => ih v u hu (hok v hv)) fun j u hu => ?_
   rw [List.getElem?_drop] at hu
   rw [p4 hh', ← Array.getElem?_toList, hcur, List.getElem?_append_left ((List.getElem?_eq_some_iff.1 hu).1)]
   exact hu
  | clo f caps =>
   simp only [okD] at hok
   simp only [RepV] at hv
   obtain ⟨vs, rfl, hr⟩ := hv
   simp only [toD, RepD]
   exact ⟨vs, rfl, l8 _ _ _ hr fun v hv u hu => ih v u hu (hok v hv)⟩
  | agg cells =>
   simp only [okD] at hok
   simp only [RepV] at hv
   obtain ⟨vs, rfl, hr⟩ := hv
   simp only [toD, RepD]
   exact ⟨vs, rfl, l8 _ _ _ hr fun v hv u hu => ih v u hu (hok v hv)⟩
  | tup cells =>
   simp only [okD] at hok
   simp only [RepV] at hv
   obtain ⟨vs, rfl, hr⟩ := hv
   simp only [toD, RepD]
   exact ⟨vs, rfl, l8 _ _ _ hr fun v hv u hu => ih v u hu (hok v hv)⟩
  | guarded c r => simp only [okD] at hok
  | dead => simp only [okD] at hok
  | slf i => simp only [okD] at hok
  | emp => simp only [okD] at hok
  | bnd f x => simp only [okD] at hok
end

def V.shift (k : Nat) : V → V
 | .own i off n sz => .own (i + k) off n sz
 | .ptr i off => .ptr (i + k) off
 | .agg cells => .agg (shifts k cells)
 | .clo f caps => .clo f (shifts k caps)
 | .tup vs => .tup (shifts k vs)
 | .guarded c r => .guarded c (r.shift k)
 | .d x => .d x
 | .dead => .dead
 | .emp => .emp
 | .bnd f x => .bnd f x
 | .slf i => .slf (i + k)
where
 shifts (k : Nat) : List V → List V
 | [] => []
 | v :: vs => v.shift k :: shifts k vs

def isValD : D → Bool
 | .val _ => true
 | .agg ds => isValDs ds
 | .tup ds => isValDs ds
 | _ => false
where
 isValDs : List D → Bool
 | [] => true
 | d :: ds => isValD d && isValDs ds
def cleanV : V → Bool
 | .d x => isValD x
 | .own .. => true
 | .tup vs => cleans vs
 | .agg vs => cleans vs
 | _ => false
where
 cleans : List V → Bool
 | [] => true
 | v :: vs => cleanV v && cleans vs

abbrev Obs := List (List D × TypeId)
def toOb (x : List D × TypeId) : Ob := ⟨x.1.map .d, x.2⟩

section
variable {w w' : World} {S S' : Nat → Prop} {φ φ' : Nat → Option Nat} {m m' : Nat}
mutual
theorem G1 {k : Nat} (hk : Keeps w S w' S') (hm : m + k ≤ m') (ho : ∀ i, i < m → φ' (i + k) = φ i) (hh : ∀ (g : Nat) (cur : Array Value) (e : TypeId), w.heap[g]? = some (Obj.cells cur e (0, 0)) → w'.heap[g]? = some (Obj.cells cur e (0, 0))) :
  ∀ (d : V) (v : Value), RepV w S φ m d v → RepV w' S' φ' m' (d.shift k) v
 | .d x, v, hv => by simp only [V.shift, RepV] at hv ⊢; exact RepD.mono hk x v hv
 | .own i off n sz, v, hv => by
  simp only [V.shift, RepV] at hv ⊢
  obtain ⟨hi, hv⟩ := hv
  refine ⟨by omega, hv.imp id ?_⟩
  rintro ⟨g, cap, cur, e, hg, rfl, hn, hm', hhh, hr⟩
  exact ⟨g, cap, cur, e, (ho i hi).trans hg, rfl, hn, hm', hh g cur e hhh, hr⟩
 | .ptr i off, v, hv => by
  simp only [V.shift, RepV] at hv ⊢
  obtain ⟨hi, g, hg, rfl⟩ := hv
  exact ⟨by omega, g, (ho i hi).trans hg, rfl⟩
 | .agg cells, v, hv => by
  simp only [V.shift, RepV] at hv ⊢
  obtain ⟨vs, rfl, hr⟩ := hv
  exact ⟨vs, rfl, RepVs.shifted hk hm ho hh cells vs hr⟩
 | .clo f caps, v, hv => by
  simp only [V.shift, RepV] at hv ⊢
  obtain ⟨vs, rfl, hr⟩ := hv
  exact ⟨vs, rfl, RepVs.shifted hk hm ho hh caps vs hr⟩
 | .tup ds, v, hv => by
  simp only [V.shift, RepV] at hv ⊢
  obtain ⟨vs, rfl, hr⟩ := hv
  exact ⟨vs, rfl, RepVs.shifted hk hm ho hh ds vs hr⟩
 | .guarded c r, v, hv => by simp only [V.shift, RepV] at hv ⊢; exact ⟨fun hc => G1 hk hm ho hh r v (hv.1 hc), hv.2⟩
 | .dead, _, _ => by simp [V.shift, RepV]
 | .emp, _, hv => by simpa only [V.shift, RepV] using hv
 | .bnd f x, v, hv => by simp only [V.shift, RepV] at hv ⊢; obtain ⟨u, e, hr⟩ := hv; exact ⟨u, e, RepD.mono hk x u hr⟩
 | .slf i, v, hv => by
  simp only [V.shift, RepV] at hv ⊢
  obtain ⟨hi, g, cur, e, hg, hc, hs, hv⟩ := hv
  exact ⟨by omega, g, cur, e, (ho i hi).trans hg, hh g cur e hc, hs, hv⟩
theorem RepVs.shifted {k : Nat} (hk : Keeps w S w' S') (hm : m + k ≤ m') (ho : ∀ i, i < m → φ' (i + k) = φ i) (hh : ∀ (g : Nat) (cur : Array Value) (e : TypeId), w.heap[g]? = some (Obj.cells cur e (0, 0)) → w'.heap[g]? = some (Obj.cells cur e (0, 0))) :
  ∀ (ds : List V) (vs : List Value), RepVs w S φ m ds vs → RepVs w' S' φ' m' (V.shift.shifts k ds) vs
 | [], vs, hv => by simpa [RepVs, V.shift.shifts] using hv
 | d :: ds, vs, hv => by
  simp only [RepVs, V.shift.shifts] at hv ⊢
  obtain ⟨v, vs', rfl, hr, ht⟩ := hv
  exact ⟨v, vs', rfl, G1 hk hm ho hh d v hr, RepVs.shifted hk hm ho hh ds vs' ht⟩
end

mutual
theorem RepD.flat : ∀ (x : D) (v : Value), isValD x = true → RepD w S x v → RepD w' S' x v
 | .val y, v, _, h => by simpa only [RepD] using h
 | .agg ds, v, hc, h => by
  simp only [RepD] at h ⊢
  obtain ⟨vs, rfl, hr⟩ := h
  exact ⟨vs, rfl, RepAll.flat ds vs (by simpa only [isValD] using hc) hr⟩
 | .tup ds, v, hc, h => by
  simp only [RepD] at h ⊢
  obtain ⟨vs, rfl, hr⟩ := h
  exact ⟨vs, rfl, RepAll.flat ds vs (by simpa only [isValD] using hc) hr⟩
 | .list n cells, v, hc, _ => by simp [isValD] at hc
 | .ref cells, v, hc, _ => by simp [isValD] at hc
 | .clo f caps, v, hc, _ => by simp [isValD] at hc
theorem RepAll.flat : ∀ (ds : List D) (vs : List Value), isValD.isValDs ds = true → RepAll w S ds vs → RepAll w' S' ds vs
 | [], vs, _, h => by simpa only [RepAll] using h
 | d :: ds, vs, hc, h => by
  simp only [RepAll] at h ⊢
  simp only [isValD.isValDs, Bool.and_eq_true] at hc
  obtain ⟨v, vs', rfl, hr, ht⟩ := h
  exact ⟨v, vs', rfl, RepD.flat d v hc.1 hr, RepAll.flat ds vs' hc.2 ht⟩
end

mutual
theorem RepV.clean : ∀ (d : V) (v : Value), cleanV d = true → RepV w S φ m d v → RepV w S' φ m d v
 | .d x, v, hc, hv => by
  simp only [RepV] at hv ⊢
  exact RepD.flat x v (by simpa only [cleanV] using hc) hv
 | .own i off n sz, v, _, hv => by simpa only [RepV] using hv
 | .agg cells, v, hc, hv => by
  simp only [RepV] at hv ⊢
  obtain ⟨vs, rfl, hr⟩ := hv
  exact ⟨vs, rfl, RepVs.clean cells vs (by simpa [cleanV] using hc) hr⟩
 | .tup cells, v, hc, hv => by
  simp only [RepV] at hv ⊢
  obtain ⟨vs, rfl, hr⟩ := hv
  exact ⟨vs, rfl, RepVs.clean cells vs (by simpa [cleanV] using hc) hr⟩
 | .ptr i off, v, hc, _ => by simp [cleanV] at hc
 | .clo f caps, v, hc, _ => by simp [cleanV] at hc
 | .guarded c r, v, hc, _ => by simp [cleanV] at hc
 | .dead, v, hc, _ => by simp [cleanV] at hc
 | .slf i, v, hc, _ => by simp [cleanV] at hc
 | .emp, v, hc, _ => by simp [cleanV] at hc
 | .bnd f x, v, hc, _ => by simp [cleanV] at hc
theorem RepVs.clean : ∀ (ds : List V) (vs : List Value), cleanV.cleans ds = true → RepVs w S φ m ds vs → RepVs w S' φ m ds vs
 | [], vs, _, hv => by simpa [RepVs] using hv
 | d :: ds, vs, hc, hv => by
  simp only [RepVs] at hv ⊢
  simp only [cleanV.cleans, Bool.and_eq_true] at hc
  obtain ⟨v, vs', rfl, hr, ht⟩ := hv
  exact ⟨v, vs', rfl, RepV.clean d v hc.1 hr, RepVs.clean ds vs' hc.2 ht⟩
end
end

structure ResRep (w w' : World) (S : Nat → Prop) (φ : Nat → Option Nat) (r : V) (obs : Obs) (v : Value) : Prop where
 below : Below w.heap.size w w'
 rep : RepV w' (Imm w.heap.size S φ obs.length) φ obs.length r v
 objs : ∀ i ob, obs[i]? = some ob → ObRep w' (Imm w.heap.size S φ obs.length) φ obs.length i (toOb ob)
 low : ∀ i g, i < obs.length → φ i = some g → w.heap.size ≤ g
 inj : ∀ i j g, i < obs.length → j < obs.length → φ i = some g → φ j = some g → i = j

def CallOK (P : Program) (f : FuncId) (ds : List D) (r : V) (obs : Obs) : Prop :=
 (∀ args w, (callFunc f args).run P w = .ok (.enter f args) w) ∧
 ∀ (w : World) (S : Nat → Prop) (vs : List Value), GI w.heap.size w S → RepAll w S ds vs → Calls P f vs.toArray w fun e w' => ∃ v φ, e = .returned v ∧ ResRep w w' S φ r obs v

def CallV (P : Program) (env : Env) (f : FuncId) (vs : List V) (r : V) (obs : Obs) : Prop :=
 ∃ k, (∀ v ∈ vs, okD env.objs k v) ∧ CallOK P f (vs.map (toD env.objs k)) r obs ∧ (vs.all noO = true ∨ cleanV r = true ∧ obs.all (fun ob => ob.1.all isValD) = true)

def Env.addObs (env : Env) (obs : Obs) : Env := { env with objs := env.objs ++ obs.map toOb }

section
variable {P : Program} {B : Nat} {w0 : World} {S0 : Nat → Prop} {φ : Nat → Option Nat} {env : Env} {a : Act} {w : World}

theorem repVs_vals_clean {w : World} {S S' : Nat → Prop} {m m' : Nat} {φ' : Nat → Option Nat} : ∀ {ds : List D} {vs : List Value}, ds.all isValD = true → RepVs w S φ m (ds.map .d) vs → RepVs w S' φ' m' (ds.map .d) vs
 | [], vs, _, h => by simpa [RepVs] using h
 | d :: ds, vs, hc, h => by
  simp only [List.map_cons, RepVs] at h ⊢
  simp only [List.all_cons, Bool.and_eq_true] at hc
  obtain ⟨v, vs', rfl, hr, ht⟩ := h
  refine ⟨v, vs', rfl, ?_, repVs_vals_clean hc.2 ht⟩
  simp only [RepV] at hr ⊢
  exact RepD.flat d v hc.1 hr

theorem Rel.called (h : Rel B w0 S0 φ env a w) {w' : World} {S : Nat → Prop} {φr : Nat → Option Nat} {r : V} {obs : Obs} {v : Value} (hres : ResRep w w' S φr r obs v)
  (hS : (∀ b, S b → Imm B S0 φ env.objs.length b) ∨ cleanV r = true ∧ obs.all (fun ob => ob.1.all isValD) = true) :
  ∃ φ', Rel B w0 S0 φ' (env.addObs obs) a w' ∧ RepV w' (Imm B S0 φ' (env.addObs obs).objs.length) φ' (env.addObs obs).objs.length (r.shift env.objs.length) v := by
 obtain ⟨φ', hφ'⟩ : ∃ φ' : Nat → Option Nat, φ' = fun i => if i < env.objs.length then φ i else φr (i - env.objs.length) := ⟨_, rfl⟩
 have hold : ∀ i, i < env.objs.length → φ' i = φ i := fun i hi => by rw [hφ']; simp [hi]
 have hnew : ∀ i, φ' (i + env.objs.length) = φr i := fun i => by rw [hφ']; simp only [show ¬ i + env.objs.length < env.objs.length by omega, if_false, Nat.add_sub_cancel]
 have hlen : (env.addObs obs).objs.length = env.objs.length + obs.length := by simp [Env.addObs]
 have hgr : Grows w w' := ⟨hres.below⟩
 have hlt : ∀ {i g}, i < env.objs.length → φ i = some g → g < w.heap.size := fun hi hg => h.live_lt hi hg
 -- the old values
 have ht : Turns w (Imm B S0 φ env.objs.length) φ env.objs.length w' (Imm B S0 φ' (env.objs.length + obs.length)) φ' (env.objs.length + obs.length) (fun _ => False) := by
  refine ⟨fun b o x hb hc => ?_, hgr.others, by omega, fun i hi _ => ⟨hold i hi, fun g _ cur e hc => ⟨cur, (hgr.below.block g (heap_lt hc)).trans hc, rfl⟩⟩⟩
  have hbl := cell_lt hc
  refine ⟨(hgr.below.cell (p := ⟨b, o, none⟩) hbl).trans hc, hb.1, fun i hi => ?_⟩
  by_cases e : i < env.objs.length
  · rw [hold i e]; exact hb.2 i e
  ·
   obtain ⟨j, rfl⟩ : ∃ j, i = j + env.objs.length := ⟨i - env.objs.length, by omega⟩
   rw [hnew]
   intro e'
   have := hres.low j b (by omega) e'
   omega
 -- the new ones
 have hkeep : (∀ b, S b → Imm B S0 φ env.objs.length b) → Keeps w' (Imm w.heap.size S φr obs.length) w' (Imm B S0 φ' (env.objs.length + obs.length)) := by
  intro hS b o x hb hc
  refine ⟨hc, ?_, fun i hi => ?_⟩
  ·
   rcases hb.1 with hs | hs
   · exact (hS b hs).1
   · exact .inr (Nat.le_trans h.baseW hs)
  ·
   by_cases e : i < env.objs.length
   ·
    rw [hold i e]
    intro e'
    rcases hb.1 with hs | hs
    · exact (hS b hs).2 i e e'
    · have := hlt e e'; omega
   ·
    obtain ⟨j, rfl⟩ : ∃ j, i = j + env.objs.length := ⟨i - env.objs.length, by omega⟩
    rw [hnew]; exact hb.2 j (by omega)
 have hrepr : RepV w' (Imm B S0 φ' (env.objs.length + obs.length)) φ' (env.objs.length + obs.length) (r.shift env.objs.length) v := by
  rcases hS with hS | ⟨hcl, _⟩
  · exact G1 (hkeep hS) (by omega) (fun i _ => hnew i) (fun g cur e hc => hc) r v hres.rep
  · exact G1 (S := Imm B S0 φ' (env.objs.length + obs.length)) (fun b o x hb hc => ⟨hc, hb⟩) (by omega) (fun i _ => hnew i) (fun g cur e hc => hc) r v (RepV.clean r v hcl hres.rep)
 refine ⟨φ', ?_, by rw [hlen]; exact hrepr⟩
 have := h.turn (w' := w') (φ' := φ') (objs' := env.objs ++ obs.map toOb) (hgr.below.mono h.baseW) (by simpa using ht) ?_ ?_ ?_
 · exact this
 ·
  intro i ob hi
  have hi' := (List.getElem?_eq_some_iff.1 hi).1
  simp only [List.length_append, List.length_map] at hi' ⊢
  by_cases e : i < env.objs.length
  ·
   rw [List.getElem?_append_left e] at hi
   exact (h.objs i ob hi).mono ht (hold i e) fun g hg => hgr.below.block g (hlt e hg)
  ·
   obtain ⟨j, rfl⟩ : ∃ j, i = j + env.objs.length := ⟨i - env.objs.length, by omega⟩
   rw [List.getElem?_append_right (by omega), Nat.add_sub_cancel, List.getElem?_map] at hi
   cases hq : obs[j]? with
   | none => simp [hq] at hi
   | some oq =>
    simp only [hq, Option.map_some, Option.some.injEq] at hi
    subst hi
    rcases hres.objs j oq hq with ⟨h1, h2⟩ | ⟨g, cur, vals, rest, h1, h2, h3, h4⟩
    · exact .inl ⟨by rw [hnew]; exact h1, h2⟩
    ·
     refine .inr ⟨g, cur, vals, rest, by rw [hnew]; exact h1, h2, h3, ?_⟩
     rcases hS with hS | ⟨_, hcl⟩
     · exact (RepAll.mono (hkeep hS) _ _ (RepVs.repAll h4)).repVs
     ·
      have hcl' := List.all_eq_true.1 hcl oq (List.mem_of_getElem? hq)
      exact repVs_vals_clean hcl' h4
 ·
  intro i g hi hg
  simp only [List.length_append, List.length_map] at hi
  by_cases e : i < env.objs.length
  · rw [hold i e] at hg; exact h.low i g e hg
  ·
   obtain ⟨j, rfl⟩ : ∃ j, i = j + env.objs.length := ⟨i - env.objs.length, by omega⟩
   rw [hnew] at hg; exact Nat.le_trans h.baseW (hres.low j g (by omega) hg)
 ·
  intro i j g hi hj hgi hgj
  simp only [List.length_append, List.length_map] at hi hj
  by_cases e : i < env.objs.length <;> by_cases e' : j < env.objs.length
  · rw [hold i e] at hgi; rw [hold j e'] at hgj; exact h.inj i j g e e' hgi hgj
  ·
   obtain ⟨j, rfl⟩ : ∃ k, j = k + env.objs.length := ⟨j - env.objs.length, by omega⟩
   rw [hold i e] at hgi; rw [hnew] at hgj
   have := hlt e hgi; have := hres.low j g (by omega) hgj; omega
  ·
   obtain ⟨i, rfl⟩ : ∃ k, i = k + env.objs.length := ⟨i - env.objs.length, by omega⟩
   rw [hold j e'] at hgj; rw [hnew] at hgi
   have := hlt e' hgj; have := hres.low i g (by omega) hgi; omega
  ·
   obtain ⟨i, rfl⟩ : ∃ k, i = k + env.objs.length := ⟨i - env.objs.length, by omega⟩
   obtain ⟨j, rfl⟩ : ∃ k, j = k + env.objs.length := ⟨j - env.objs.length, by omega⟩
   rw [hnew] at hgi hgj
   rw [hres.inj i j g (by omega) (by omega) hgi hgj]

theorem CallV.sound {f : FuncId} {vs : List V} {r : V} {obs : Obs} (hc : CallV P env f vs r obs) (h : Rel B w0 S0 φ env a w) {us : List Value} (hu : RepVs w (Imm B S0 φ env.objs.length) φ env.objs.length vs us) :
  Calls P f us.toArray w fun e w' => ∃ v φ', e = .returned v ∧ Rel B w0 S0 φ' (env.addObs obs) a w' ∧ RepV w' (Imm B S0 φ' (env.addObs obs).objs.length) φ' (env.addObs obs).objs.length (r.shift env.objs.length) v := by
 obtain ⟨k, hok, ⟨_, hcall⟩, hS⟩ := hc
 by_cases hd : vs.all noO = true
 ·
  have hrep : RepAll w (Imm B S0 φ env.objs.length) (vs.map (toD env.objs k)) us := by
   refine l8 _ _ _ hu fun v hv u hvu => ?_
   exact noO_rep k v u hvu (List.all_eq_true.1 hd v hv) (hok v hv)
  refine (hcall w _ us h.glob hrep).mono ?_
  rintro e w' ⟨v, φr, rfl, hres⟩
  obtain ⟨φ', h1, h2⟩ := h.called hres (.inl fun b hb => hb)
  exact ⟨v, φ', rfl, h1, h2⟩
 ·
  have hrep : RepAll w (fun _ => True) (vs.map (toD env.objs k)) us :=
   l8 _ _ _ hu fun v hv u hvu => toD_rep h (fun _ _ => trivial) (fun _ _ _ _ => trivial) k v u hvu (hok v hv)
  refine (hcall w _ us h.glob.any hrep).mono ?_
  rintro e w' ⟨v, φr, rfl, hres⟩
  obtain ⟨φ', h1, h2⟩ := h.called hres (.inr (hS.resolve_left hd))
  exact ⟨v, φ', rfl, h1, h2⟩
end
end Go.PW
