import Derived.Test.YtbndgoeahoadlaaGreatDoorPwG
set_option linter.all false
namespace Go.PW
open Go.RowKit

def seg {α : Type} (cells : List α) (k n : Nat) : List α := (cells.drop k).take n

section
variable {B : Nat} {w0 : World} {S0 : Nat → Prop} {φ : Nat → Option Nat} {env : Env} {a : Act} {w w' : World}

theorem RepVs.seg {S : Nat → Prop} {m : Nat} : ∀ {ds : List V} {vs : List Value}, RepVs w S φ m ds vs → ∀ (k n : Nat), RepVs w S φ m (seg ds k n) (PW.seg vs k n)
 | [], vs, h, k, n => by simp only [RepVs] at h; subst h; simp [PW.seg, RepVs]
 | d :: ds, vs, h, k, n => by
  simp only [RepVs] at h
  obtain ⟨v, vs', rfl, hr, ht⟩ := h
  cases k with
  | zero =>
   cases n with
   | zero => simp [PW.seg, RepVs]
   | succ n =>
    have := RepVs.seg ht 0 n
    simp only [PW.seg, List.drop_zero, List.take_succ_cons, RepVs] at this ⊢
    exact ⟨v, _, rfl, hr, this⟩
  | succ k => simpa [PW.seg] using RepVs.seg ht k n

theorem kills_map (i : Nat) (l : List V) : V.kill.kills i l = l.map (V.kill i) := V.kills_eq i l

theorem RepVs.killedMap {S S' : Nat → Prop} {φ' : Nat → Option Nat} {m m' k : Nat} (h : Turns w S φ m w' S' φ' m' (· = k)) {ds : List V} {vs : List Value} (hv : RepVs w S φ m ds vs) :
  RepVs w' S' φ' m' (ds.map (V.kill k)) vs := by rw [← kills_map]; exact RepVs.killed h ds vs hv

def B6 (objs : List Ob) (i : Nat) (ob : Ob) (es : List V) : List Ob :=
 (objs.map fun ob => { ob with cells := ob.cells.map (V.kill i) }).set i { ob with cells := (ob.cells ++ es).map (V.kill i) }
@[simp] theorem appObjs_length (objs : List Ob) (i : Nat) (ob : Ob) (es : List V) : (B6 objs i ob es).length = objs.length := by simp [B6]

def C6 (env : Env) (i : Nat) (ob : Ob) (es : List V) : Env :=
 { env with tmps := env.tmps.map fun x => (x.1, x.2.kill i), objs := B6 env.objs i ob es, gs := (env.gs.1, if env.gs.1 ≤ i then env.gs.2 else env.gs.2.map fun x => (x.1.kill i, x.2)) }

theorem Rel.appendTo (h : Rel B w0 S0 φ env a w) {i g' : Nat} {ob : Ob} {cur' : Array Value} {vals us rest' : List Value} {es : List V} (hi : env.objs[i]? = some ob) (hb : Below B w w') (hko : KeepsOthers w w')
  (hkeep : ∀ b o x, Imm B S0 φ env.objs.length b → w.cell? ⟨b, o, none⟩ = some x → w'.cell? ⟨b, o, none⟩ = some x ∧ b ≠ g')
  (hoth : ∀ j g, j < env.objs.length → j ≠ i → φ j = some g → w'.heap[g]? = w.heap[g]? ∧ g ≠ g')
  (hh : w'.heap[g']? = some (.cells cur' ob.e (0, 0))) (hc : cur'.toList = vals ++ us ++ rest') (hB : B ≤ g')
  (hv : RepVs w (Imm B S0 φ env.objs.length) φ env.objs.length ob.cells vals) (he : RepVs w (Imm B S0 φ env.objs.length) φ env.objs.length es us) :
  Rel B w0 S0 (fun j => if j = i then some g' else φ j) (C6 env i ob es) a w' := by
 have hil : i < env.objs.length := (List.getElem?_eq_some_iff.1 hi).1
 have hlen : (B6 env.objs i ob es).length = env.objs.length := by simp
 have ht : Turns w (Imm B S0 φ env.objs.length) φ env.objs.length w' (Imm B S0 (fun j => if j = i then some g' else φ j) env.objs.length) (fun j => if j = i then some g' else φ j) env.objs.length (· = i) := by
  refine ⟨fun b o x hb hx => ⟨(hkeep b o x hb hx).1, hb.1, fun j hj => ?_⟩, hko, Nat.le_refl _, fun j hj hne => ⟨by simp [hne], fun g hg cur e hc => ⟨cur, (hoth j g hj hne hg).1.trans hc, rfl⟩⟩⟩
  by_cases e : j = i
  · simp only [e, if_true]; intro e'; cases e'; exact (hkeep _ o x hb hx).2 rfl
  · simp only [e, if_false]; exact hb.2 j hj
 refine h.turnKill (objs' := B6 env.objs i ob es) i hb (by rw [hlen]; exact ht) ?_ ?_ ?_
 ·
  intro j ob' hj
  rw [hlen]
  unfold B6 at hj
  by_cases e : i = j
  ·
   subst e
   rw [List.getElem?_set_self (by simpa using hil)] at hj
   cases hj
   exact .inr ⟨g', cur', vals ++ us, rest', by simp, hh, hc, RepVs.killedMap ht (hv.append he)⟩
  ·
   rw [List.getElem?_set_ne e, List.getElem?_map] at hj
   cases hq : env.objs[j]? with
   | none => simp [hq] at hj
   | some oq =>
    simp only [hq, Option.map_some, Option.some.injEq] at hj
    subst hj
    have hjl : j < env.objs.length := (List.getElem?_eq_some_iff.1 hq).1
    rcases h.objs j oq hq with ⟨h1, h2⟩ | ⟨g, cur, vs, rest, h1, h2, h3, h4⟩
    · exact .inl ⟨by simp [Ne.symm e, h1], by simp [h2]⟩
    · exact .inr ⟨g, cur, vs, rest, by simp [Ne.symm e, h1], (hoth j g hjl (Ne.symm e) h1).1.trans h2, h3, RepVs.killedMap ht h4⟩
 ·
  intro j g hj hg
  rw [hlen] at hj
  by_cases e : j = i
  · simp only [e, if_true] at hg; cases hg; exact hB
  · simp only [e, if_false] at hg; exact h.low j g hj hg
 ·
  intro j k g hj hk hgj hgk
  rw [hlen] at hj hk
  by_cases e : j = i <;> by_cases e' : k = i
  · omega
  ·
   simp only [e, e', if_true, if_false] at hgj hgk; cases hgj
   exact absurd rfl (hoth k _ hk e' hgk).2
  ·
   simp only [e, e', if_true, if_false] at hgj hgk; cases hgk
   exact absurd rfl (hoth j _ hj e hgj).2
  · simp only [e, e', if_false] at hgj hgk; exact h.inj j k g hj hk hgj hgk

theorem Rel.appendNone (h : Rel B w0 S0 φ env a w) {i : Nat} {ob : Ob} (hi : env.objs[i]? = some ob) : Rel B w0 S0 φ (C6 env i ob []) a w := by
 have hil : i < env.objs.length := (List.getElem?_eq_some_iff.1 hi).1
 have hlen : (B6 env.objs i ob []).length = env.objs.length := by simp
 have ht : Turns w (Imm B S0 φ env.objs.length) φ env.objs.length w (Imm B S0 φ env.objs.length) φ env.objs.length (· = i) :=
  ⟨fun b o x hb hx => ⟨hx, hb⟩, KeepsOthers.refl _, Nat.le_refl _, fun j hj hne => ⟨rfl, fun g hg cur e hc => ⟨cur, hc, rfl⟩⟩⟩
 refine h.turnKill (objs' := B6 env.objs i ob []) i (Below.refl _ _) (by rw [hlen]; exact ht) ?_ (by rw [hlen]; exact h.low) (by rw [hlen]; exact h.inj)
 intro j ob' hj
 rw [hlen]
 have hob : (B6 env.objs i ob [])[j]? = (env.objs[j]?).map fun ob => { ob with cells := ob.cells.map (V.kill i) } := by
  unfold B6
  by_cases e : i = j
  · subst e; rw [List.getElem?_set_self (by simpa using hil), hi]; simp
  · rw [List.getElem?_set_ne e, List.getElem?_map]
 rw [hob] at hj
 cases hq : env.objs[j]? with
 | none => simp [hq] at hj
 | some oq =>
  simp only [hq, Option.map_some, Option.some.injEq] at hj
  subst hj
  rcases h.objs j oq hq with ⟨h1, h2⟩ | ⟨g, cur, vs, rest, h1, h2, h3, h4⟩
  · exact .inl ⟨h1, by simp [h2]⟩
  · exact .inr ⟨g, cur, vs, rest, h1, h2, h3, RepVs.killedMap ht h4⟩

variable {P : Program}

structure AppSrc (P : Program) (w : World) (t tx ty e : TypeId) (info : TypeInfo) (zv x : Value) (us : List Value) (k : Nat) : Prop where
 atZero : k = 0 → ∀ b n c, n ≤ c → (Builtin.append_ #[t, tx] ty #[.slice b n c, x]).run P w = .ok (.slice b n c) w
 atNil : k ≠ 0 → k ≤ 140737488355328 → k * info.bytes ≤ 140737488355328 → (Builtin.append_ #[t, tx] ty #[.slice .none 0 0, x]).run P w =
  .ok (.slice (some ⟨w.heap.size, 0, .none⟩) k (grownCap w k 0 e)) (w.drew.alloc (.cells (us.toArray ++ Builtin.zeroCells zv.cells (grownCap w k 0 e - k)) e))
 atRoom : k ≠ 0 → ∀ (g n cap : Nat) (cur : Array Value), w.heap[g]? = some (.cells cur e (0, 0)) → n + k ≤ cap → n * info.size + us.length ≤ cur.size → n + k ≤ 140737488355328 → (n + k) * info.bytes ≤ 140737488355328 →
  (Builtin.append_ #[t, tx] ty #[.slice (some ⟨g, 0, .none⟩) n cap, x]).run P w = .ok (.slice (some ⟨g, 0, .none⟩) (n + k) cap) (w.setRow g (cur.toList.take (n * info.size) ++ us ++ cur.toList.drop (n * info.size + us.length)).toArray)
 atGrow : k ≠ 0 → ∀ (g n cap : Nat) (vals : List Value), vals.length = n * info.size → (∀ j u, vals[j]? = some u → w.cell? ((⟨g, 0, .none⟩ : Addr).add j) = some u) → cap < n + k → n + k ≤ 140737488355328 → (n + k) * info.bytes ≤ 140737488355328 →
  (Builtin.append_ #[t, tx] ty #[.slice (some ⟨g, 0, .none⟩) n cap, x]).run P w = .ok (.slice (some ⟨w.heap.size, 0, .none⟩) (n + k) (grownCap w (n + k) cap e)) (w.drew.alloc (.cells (vals.toArray ++ us.toArray ++ Builtin.zeroCells zv.cells (grownCap w (n + k) cap e - (n + k))) e))
theorem AppSrc.slice {w : World} {t ty e : TypeId} {info : TypeInfo} {zv : Value} (ht : P.underlying t = some (.slice e)) (hinfo : P.info? e = some info) (hz : info.zero = some zv) {x : Value} {us : List Value} {k : Nat} (h1 : ∀ u ∈ us, u.oneCell' = true) (hk : us.length = k * info.size) (hsz : info.size ≠ 0)
  (hx : ∃ ax c, x = .slice ax k c ∧ (us = [] ∨ ∃ b o, ax = some ⟨b, o, none⟩ ∧ ∀ j u, us[j]? = some u → w.cell? ⟨b, o + j, none⟩ = some u)) : AppSrc P w t t ty e info zv x us k := by
 obtain ⟨ax, c, rfl, hxs⟩ := hx
 have hne : k ≠ 0 → us ≠ [] := by
  intro hk0 e; rw [e] at hk
  have : 0 < k * info.size := Nat.mul_pos (Nat.pos_of_ne_zero hk0) (Nat.pos_of_ne_zero hsz)
  simp at hk; omega
 have hcells : k ≠ 0 → ∃ b o, ax = some ⟨b, o, none⟩ ∧ ∀ j u, us[j]? = some u → w.cell? ((⟨b, o, none⟩ : Addr).add j) = some u := fun hk0 => by
  obtain ⟨b, o, rfl, hc⟩ := hxs.resolve_left (hne hk0)
  exact ⟨b, o, rfl, fun j u hu => by rw [Addr.add_lit]; exact hc j u hu⟩
 refine ⟨fun hk0 b n c' hn => ?_, fun hk0 hm hb => ?_, fun hk0 g n cap cur hh hroom hfit hm hb => ?_, fun hk0 g n cap vals hvl hold hlt hm hb => ?_⟩
 ·
  subst hk0
  cases b <;> cases ax <;> simp [Builtin.append_, run_underlying ht, sizeOf, typeInfo, hinfo, Builtin.lenOf, Builtin.firstCells, loadCells, loadCellsFrom, storeCells, hn]
 ·
  obtain ⟨b, o, rfl, hc⟩ := hcells hk0
  exact run_append_nil (P := P) w t ty e info zv ht hinfo hz ⟨b, o, none⟩ k c us hk hc (by omega) (by omega) (by omega)
 ·
  obtain ⟨b, o, rfl, hc⟩ := hcells hk0
  exact run_append_room (P := P) w t ty e info ht hinfo g n cap cur hh ⟨b, o, none⟩ k c us hk hc h1 hroom hfit
 ·
  obtain ⟨b, o, rfl, hc⟩ := hcells hk0
  exact run_append_grow (P := P) w t ty e info zv ht hinfo hz ⟨g, 0, none⟩ n cap vals hvl hold ⟨b, o, none⟩ k c us hk hc (by omega) (by omega) (growslice_fits (by omega) hb)

theorem Rel.append (h : Rel B w0 S0 φ env a w) {t tx e : TypeId} {sz bytes : Nat} {z : List Value} (hty : F3 P e = some (sz, bytes, z))
  {i n k : Nat} {ob : Ob} {v : Value} (hv : RepV w (Imm B S0 φ env.objs.length) φ env.objs.length (.own i 0 n sz) v) (hi : env.objs[i]? = some ob) (hfull : n * sz = ob.cells.length) (hobe : ob.e = e)
  (ty : TypeId) {x : Value} {es : List V} {us : List Value} (hes : RepVs w (Imm B S0 φ env.objs.length) φ env.objs.length es us) (hk : us.length = k * sz)
  (hx : ∀ info zv, P.info? e = some info → info.zero = some zv → info.size = sz → info.bytes = bytes → zv.cells.toList = z → AppSrc P w t tx ty e info zv x us k)
  (hsz : sz ≠ 0) (hbytes : (n + k) * bytes ≤ 140737488355328) (hmax : n + k ≤ 140737488355328) :
  ∃ v' w' φ', (Builtin.append_ #[t, tx] ty #[v, x]).run P w = .ok v' w' ∧ Rel B w0 S0 φ' (C6 env i ob es) a w' ∧
   RepV w' (Imm B S0 φ' env.objs.length) φ' env.objs.length (.own i 0 (n + k) sz) v' := by
 obtain ⟨info, zv, hinfo, hs, hby, hz, hzl, hz1⟩ := tyOf_spec' hty
 have hsr := hx info zv hinfo hz hs hby hzl
 clear hx
 subst hs; subst hby
 simp only [RepV] at hv
 obtain ⟨hil, hv⟩ := hv
 by_cases hk0 : k = 0
 ·
  have hus : us = [] := List.eq_nil_of_length_eq_zero (by rw [hk, hk0]; simp)
  have hx0 := hsr.atZero hk0
  subst hk0
  subst hus
  have hes0 : es = [] := by
   have := RepVs.length _ _ hes
   exact List.eq_nil_of_length_eq_zero (by simpa using this.symm)
  subst hes0
  refine ⟨v, w, φ, ?_, h.appendNone hi, by simp only [RepV]; exact ⟨hil, hv⟩⟩
  rcases hv with ⟨a', rfl, hn, _⟩ | ⟨g, cap, cur, e', hg, rfl, hn, hm, hh, hroom⟩
  · exact hx0 _ _ _ (Nat.le_refl _)
  · exact hx0 _ _ _ hn
 ·
  have hne : us ≠ [] := by
   intro e; rw [e] at hk
   have : 0 < k * info.size := Nat.mul_pos (Nat.pos_of_ne_zero hk0) (Nat.pos_of_ne_zero hsz)
   simp at hk; omega
  -- growing into a new block
  have grow : ∀ (cap : Nat) (vals : List Value), n * info.size = vals.length → n ≤ cap → cap < n + k → RepVs w (Imm B S0 φ env.objs.length) φ env.objs.length ob.cells vals →
    Rel B w0 S0 (fun j => if j = i then some w.heap.size else φ j) (C6 env i ob es) a (w.drew.alloc (.cells (vals.toArray ++ us.toArray ++ Builtin.zeroCells zv.cells (grownCap w (n + k) cap e - (n + k))) e)) ∧
    RepV (w.drew.alloc (.cells (vals.toArray ++ us.toArray ++ Builtin.zeroCells zv.cells (grownCap w (n + k) cap e - (n + k))) e)) (Imm B S0 (fun j => if j = i then some w.heap.size else φ j) env.objs.length) (fun j => if j = i then some w.heap.size else φ j) env.objs.length (.own i 0 (n + k) info.size) (.slice (some ⟨w.heap.size, 0, none⟩) (n + k) (grownCap w (n + k) cap e)) := by
   intro cap vals hvl hnc hlt hvals
   have hge := grownCap_ge w (n + k) cap e
   have hcm : grownCap w (n + k) cap e ≤ maxLen := grownCap_le_maxLen w (n + k) cap e (by simp only [maxLen]; omega)
   have hnewb : (w.drew.alloc (.cells (vals.toArray ++ us.toArray ++ Builtin.zeroCells zv.cells (grownCap w (n + k) cap e - (n + k))) e)).heap[w.heap.size]? = some (.cells (vals.toArray ++ us.toArray ++ Builtin.zeroCells zv.cells (grownCap w (n + k) cap e - (n + k))) e (0, 0)) := heap_alloc_new w.drew _
   have hgr : Grows w (w.drew.alloc (.cells (vals.toArray ++ us.toArray ++ Builtin.zeroCells zv.cells (grownCap w (n + k) cap e - (n + k))) e)) := (Grows.drew w).trans (Grows.alloc w.drew _)
   constructor
   ·
    refine h.appendTo (g' := w.heap.size) (vals := vals) (us := us) (rest' := (Builtin.zeroCells zv.cells (grownCap w (n + k) cap e - (n + k))).toList) hi (hgr.below.mono h.baseW) hgr.others ?_ ?_ (by rw [hobe]; exact hnewb) (by simp) h.baseW hvals hes
    ·
     intro b' o' x' hb' hx'
     have := cell_lt hx'
     exact ⟨(hgr.below.cell (p := ⟨b', o', none⟩) this).trans hx', by omega⟩
    ·
     intro j g hj hne hg
     have := h.live_lt hj hg
     exact ⟨hgr.below.block g this, by omega⟩
   ·
    simp only [RepV]
    refine ⟨hil, .inr ⟨w.heap.size, _, _, e, by simp, rfl, hge, hcm, hnewb, ?_⟩⟩
    simp only [Array.size_append, List.size_toArray, size_zeroCells, ← hvl, hk]
    rw [hz1, ← Nat.add_mul, ← Nat.add_mul, Nat.zero_add]
    congr 1
    omega
  rcases hv with ⟨a', rfl, rfl, ha'⟩ | ⟨g, cap, cur, e', hg, rfl, hn, hm, hh, hroom⟩
  ·
   have : a' = none := ha' trivial
   subst this
   have hob : ob.cells = [] := List.eq_nil_of_length_eq_zero (by omega)
   have hr := hsr.atNil hk0 (by omega) (by have := hbytes; simp only [Nat.zero_add] at this; omega)
   have := grow 0 [] (by simp) (Nat.le_refl 0) (by omega) (by rw [hob]; simp [RepVs])
   simp only [Nat.zero_add, Array.empty_append] at this hr ⊢
   exact ⟨_, _, _, hr, this.1, this.2⟩
  ·
   have hobr := h.objs i ob hi
   rcases hobr with ⟨h0, _⟩ | ⟨g2, cur2, vals, rest, hg2, hh2, hc2, hvals⟩
   · rw [hg] at h0; cases h0
   rw [hg] at hg2; cases hg2
   rw [hh] at hh2
   simp only [Option.some.injEq, Obj.cells.injEq, and_true] at hh2
   obtain ⟨rfl, rfl⟩ := hh2
   have hvl := RepVs.length _ _ hvals
   have hvn : n * info.size = vals.length := by omega
   by_cases hroom' : n + k ≤ cap
   ·
    have hfit : n * info.size + us.length ≤ cur.size := by
     rw [hk, ← hroom, Nat.zero_add, ← Nat.add_mul]; exact Nat.mul_le_mul_right _ hroom'
    have hcl : cur.size = vals.length + rest.length := by have := congrArg List.length hc2; simpa using this
    have hr := hsr.atRoom hk0 g n cap cur (by rw [← hobe]; exact hh) hroom' hfit hmax hbytes
    refine ⟨_, _, _, hr, h.appendTo (g' := g) (vals := vals) (us := us) (rest' := rest.drop us.length) hi (below_setRow _ (h.low i g hil hg)) (others_setRow _ hh) ?_ ?_ (setRow_heap w g cur _ _ _ hh) ?_ (h.low i g hil hg) hvals hes, ?_⟩
    ·
     intro b' o' x' hb' hx'
     have hbg : b' ≠ g := fun e => hb'.2 i hil (by rw [e, hg])
     exact ⟨by rw [cell_setRow _ hbg]; exact hx', hbg⟩
    ·
     intro j g2 hj hne hg2
     have hgg : g2 ≠ g := by rintro rfl; exact hne (h.inj j i g2 hj hil hg2 hg)
     exact ⟨setRow_other w g g2 _ hgg, hgg⟩
    ·
     rw [List.toList_toArray, hvn, hc2]
     simp only [List.take_left, List.append_assoc, List.append_cancel_left_eq]
     rw [List.drop_append, List.drop_of_length_le (by omega)]
     simp
    ·
     simp only [RepV]
     refine ⟨hil, .inr ⟨g, cap, _, _, by simp, rfl, hroom', hm, setRow_heap w g cur _ _ _ hh, ?_⟩⟩
     simp only [List.size_toArray, List.length_append, List.length_take, List.length_drop, Array.length_toList]
     omega
   ·
    have holds : ∀ j u, vals[j]? = some u → w.cell? ((⟨g, 0, none⟩ : Addr).add j) = some u := fun j u hu => by
     rw [Addr.add_lit, Nat.zero_add, p4 hh, ← Array.getElem?_toList, hc2, List.getElem?_append_left ((List.getElem?_eq_some_iff.1 hu).1)]; exact hu
    have hr := hsr.atGrow hk0 g n cap vals hvn.symm holds (by omega) hmax hbytes
    have := grow cap vals hvn hn (by omega) hvals
    exact ⟨_, _, _, hr, this.1, this.2⟩
end
end Go.PW
