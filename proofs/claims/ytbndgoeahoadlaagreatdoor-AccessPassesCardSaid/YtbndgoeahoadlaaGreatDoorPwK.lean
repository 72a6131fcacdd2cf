import Derived.Test.YtbndgoeahoadlaaGreatDoorPwJ
import Derived.Lib.AppendZeros
import Derived.Lib.AppendZerosOnto
set_option linter.all false
namespace Go.PW
open Go.RowKit

section
variable {P : Program} {B : Nat} {w0 : World} {S0 : Nat → Prop} {φ : Nat → Option Nat} {env : Env} {a : Act} {w : World}

theorem okDst_nt {env env' : Env} (h : env'.nt = env.nt) {d : Option Nat} (hd : l5 env d) : l5 env' d := by
  cases d with
  | none => trivial
  | some d => simp only [l5] at hd ⊢; omega

theorem srcF_sound (h : Rel B w0 S0 φ env a w) {sz : Nat} {x : V} {v : Value} (hx : RepV w (Imm B S0 φ env.objs.length) φ env.objs.length x v) (hc : (srcF env.objs sz x).1) :
    ∃ ax c us, v = .slice ax (srcF env.objs sz x).2.1 c ∧ us.length = (srcF env.objs sz x).2.1 * sz ∧ RepVs w (Imm B S0 φ env.objs.length) φ env.objs.length (srcF env.objs sz x).2.2 us ∧
      (us = [] ∨ ∃ b o, ax = some ⟨b, o, none⟩ ∧ ∀ j u, us[j]? = some u → w.cell? ⟨b, o + j, none⟩ = some u) := by
  unfold srcF at hc ⊢
  split at hc
  · rename_i j off n sz'
    obtain ⟨rfl, hle⟩ := hc
    simp only [RepV] at hx
    obtain ⟨hj, ⟨ad, rfl, rfl, _⟩ | ⟨g, cap, cur, e, hg, rfl, hn, hm, hh, hroom⟩⟩ := hx
    · exact ⟨ad, 0, [], rfl, by simp, by simp [seg, RepVs], .inl rfl⟩
    · unfold cellsOf at hle ⊢
      have hob : ∃ ob, env.objs[j]? = some ob := ⟨env.objs[j], by simp [hj]⟩
      obtain ⟨ob, hob⟩ := hob
      simp only [hob] at hle ⊢
      rcases h.objs j ob hob with ⟨h0, _⟩ | ⟨g', cur', vals, rest, hg', hh', hcur, hv⟩
      · rw [hg] at h0; cases h0
      rw [hg] at hg'; cases hg'
      rw [hh] at hh'
      simp only [Option.some.injEq, Obj.cells.injEq, and_true] at hh'
      obtain ⟨rfl, _⟩ := hh'
      have hvl := RepVs.length _ _ hv
      refine ⟨_, _, seg vals off (n * sz'), rfl, ?_, hv.seg off (n * sz'), .inr ⟨g, off, rfl, fun k u hu => ?_⟩⟩
      · simp [seg]; omega
      · have hk : k < n * sz' := by
          have := (List.getElem?_eq_some_iff.1 hu).1
          simp only [seg, List.length_take] at this; omega
        rw [seg, List.getElem?_take, if_pos hk, List.getElem?_drop] at hu
        rw [p4 hh, ← Array.getElem?_toList, hcur, List.getElem?_append_left (by omega)]
        exact hu
  · rename_i n cells
    simp only [RepV, RepD] at hx
    obtain ⟨ad, cap, rfl, _, rfl | ⟨b, o, rfl, hr⟩⟩ := hx
    · exact ⟨_, _, [], rfl, by simpa using hc, by simp [RepVs], .inl rfl⟩
    · obtain ⟨vs, h1, h2⟩ := RepCells.vals _ _ _ hr
      exact ⟨_, _, vs, rfl, by rw [RepAll.length _ _ h1]; exact hc, h1.repVs, .inr ⟨b, o, rfl, h2⟩⟩
  · simp only [RepV, RepD] at hx
    subst hx
    exact ⟨none, 0, [], rfl, by simp, by simp [RepVs], .inl rfl⟩
  · exact hc.elim

theorem n9 {o : Oper} {b : Builtin} {xs : Array Operand} {ts : Array TypeId} (ho : o.op = .call { callee := .builtin b, args := xs, argTypes := ts }) :
    ∃ cs, execOp a.eval o = builtin b ts o.type cs (xs.map a.eval) := by
  refine ⟨xs.map fun | .const _ => true | _ => false, ?_⟩
  simp only [execOp, ho, resolve, invoke, pure_bind]
  rfl

theorem zeroCells_one {zv z0 : Value} (h : zv.cells.toList = [z0]) (n : Nat) : Builtin.zeroCells zv.cells n = (List.replicate n z0).toArray := by
  have hzv : zv.cells = #[z0] := by apply Array.toList_inj.1; simpa using h
  rw [hzv]
  apply Array.ext
  · simp [Builtin.zeroCells]
  · intro j h1 h2
    simp [Builtin.zeroCells, Nat.mod_one]
theorem AppSrc.zeros {w : World} {t tx ty e : TypeId} {info : TypeInfo} {zv z0 : Value} {kn kq : IntKind} (ht : P.underlying t = some (.slice e)) (htn : P.underlying tx = some (.int kn)) (hinfo : P.info? e = some info) (hz : info.zero = some zv)
    (hc : zv.cells.toList = [z0]) (hs : info.size = 1) (k : Nat) (h1 : ∀ u ∈ List.replicate k z0, u.oneCell' = true) : AppSrc P w t tx ty e info zv (.int kq k) (List.replicate k z0) k := by
  refine ⟨fun hk0 b n c' hn => ?_, fun hk0 hm hb => ?_, fun hk0 g n cap cur hh hroom hfit hm hb => ?_, fun hk0 g n cap vals hvl hold hlt hm hb => ?_⟩
  · subst hk0
    have h0 : IntKind.i64.wrap (0 : Int) = 0 := by decide
    cases b <;> simp [Builtin.append_, run_underlying ht, run_underlying htn, sizeOf, typeInfo, hinfo, asInt, asIntOf, h0, storeCells, hn]
  · have h := Lib.run_append_nil_zeros (P := P) w t tx ty e info zv kq kn ht htn hinfo hz k (by omega) (by omega) (by omega) (by omega)
    rw [zeroCells_one hc k] at h
    exact h
  · have hw : IntKind.i64.wrap (k : Int) = k := by rw [IntKind.wrap_i64]; omega
    have hneg : ¬ ((k : Int) < 0) := by omega
    have h48i : ¬ (281474976710656 < (k : Int) * (info.bytes : Int)) := by
      have : k * info.bytes ≤ (n + k) * info.bytes := Nat.mul_le_mul_right _ (by omega)
      rw [← Int.natCast_mul]
      omega
    have hns : ¬ (k * info.size = 0) := Nat.mul_ne_zero hk0 (by omega)
    have hst := run_storeCells_at P g (n * info.size) e (List.replicate k z0) 0 cur w hh (by simpa using hfit) h1
    simp only [Nat.add_zero] at hst
    have hzc := zeroCells_one hc k
    simp [Builtin.append_, run_underlying ht, run_underlying htn, sizeOf, typeInfo, zeroValue, hinfo, hz, asInt, asIntOf, hw, hneg, h48i, hns, hroom, Addr.add_lit, hzc, hst]
  · have holdr : (Builtin.firstCells info.size n (.slice (some ⟨g, 0, none⟩) n cap)).run P w.drew = .ok vals.toArray w.drew := run_firstCells_some w.drew info.size n ⟨g, 0, none⟩ n cap vals hvl (fun j v hj => hold j v hj)
    have h := Lib.run_append_grow_zeros (P := P) w t tx ty e info zv kq kn ht htn hinfo hz (some ⟨g, 0, none⟩) n cap vals holdr k (by omega) (by omega) hlt (by omega)
      (by have : k * info.bytes ≤ (n + k) * info.bytes := Nat.mul_le_mul_right _ (by omega)
          omega) (growslice_fits (by omega) hb)
    rw [zeroCells_one hc k] at h
    exact h
theorem appSrcF_sound {B : Nat} {w0 : World} {S0 : Nat → Prop} {φ : Nat → Option Nat} {a : Act} {w : World} (h : Rel B w0 S0 φ env a w) {t t' e : TypeId} {sz bytes : Nat} {z : List Value} (hu : P.underlying t = some (.slice e)) (ht : F3 P e = some (sz, bytes, z)) (hsz : sz ≠ 0) {x : V} {xv : Value} (hx : RepV w (Imm B S0 φ env.objs.length) φ env.objs.length x xv)
    (hc : (m6 P env.objs t t' sz z x).1) (hone : (m6 P env.objs t t' sz z x).2.2.all oneV = true) (ty : TypeId) :
    ∃ us, us.length = (m6 P env.objs t t' sz z x).2.1 * sz ∧ RepVs w (Imm B S0 φ env.objs.length) φ env.objs.length (m6 P env.objs t t' sz z x).2.2 us ∧
      ∀ info zv, P.info? e = some info → info.zero = some zv → info.size = sz → info.bytes = bytes → zv.cells.toList = z → AppSrc P w t t' ty e info zv xv us (m6 P env.objs t t' sz z x).2.1 := by
  unfold m6 at hc hone ⊢
  split at hc
  · rename_i ht'
    subst ht'
    simp only [if_true] at hone ⊢
    obtain ⟨ax, c, us, hxv, hul, hes, hcells⟩ := srcF_sound h hx hc
    refine ⟨us, hul, hes, fun info zv hi hz hs _ _ => ?_⟩
    subst hs
    exact AppSrc.slice hu hi hz (hes.allOne hone) hul hsz ⟨ax, c, hxv, hcells⟩
  · rename_i ht'
    simp only [ht', if_false] at hone ⊢
    unfold zerF at hc hone ⊢
    split at hc
    · rename_i kq k
      split at hc
      · rename_i kn z0 hkn
        simp only [hkn] at hone hc ⊢
        simp only [RepV, RepD] at hx
        subst hx
        have hes : RepVs w (Imm B S0 φ env.objs.length) φ env.objs.length (List.replicate k.toNat (V.d (.val z0))) (List.replicate k.toNat z0) := by
          generalize k.toNat = n
          induction n with
          | zero => simp [RepVs]
          | succ n ih =>
            rw [List.replicate_succ, List.replicate_succ]
            simp only [RepVs]
            exact ⟨_, _, rfl, by simp [RepV, RepD], ih⟩
        obtain ⟨i2, zv2, hi2, hs2, _, hz2, hzz2, hzs2⟩ := tyOf_spec' ht
        have hsz1 : sz = 1 := by
          rw [← hzs2, ← Array.length_toList, hzz2]; rfl
        refine ⟨List.replicate k.toNat z0, by rw [hsz1]; simp, hes, fun info zv hi hz hs _ hzl => ?_⟩
        have hk : k = (k.toNat : Int) := (Int.toNat_of_nonneg hc).symm
        have := AppSrc.zeros (w := w) (ty := ty) (kq := kq) hu (kindOf_spec hkn) hi hz hzl (by omega) k.toNat (hes.allOne hone)
        rw [← hk] at this
        exact this
      · exact hc.elim
    · exact hc.elim

theorem appendF_sound {o : Oper} {t t' : TypeId} {s x : Operand} (ho : o.op = .call { callee := .builtin .append, args := #[s, x], argTypes := #[t, t'] })
    (hc : (q4 P env o.dst t t' (ev env s) (ev env x)).1) : Comes1 P o env (q4 P env o.dst t t' (ev env s) (ev env x)).2 := by
  have hex : ∀ (a : Act) (w : World) (v : Value) (w' : World), (Builtin.append_ #[t, t'] o.type #[a.eval s, a.eval x]).run P w = .ok v w' → (execOp a.eval o).run P w = .ok (.value v) w' := by
    intro a w v w' h
    obtain ⟨cs, h1⟩ := n9 (a := a) ho
    rw [h1]
    simp [builtin, h]
  unfold q4 at hc ⊢
  split at hc
  · rename_i e he
    have hu := o7 he
    split at hc
    · rename_i sz bytes z ht
      split at hc
      · rename_i i off n sz' hs
        split at hc
        · rename_i ob hi
          obtain ⟨⟨hsrc, rfl, rfl, hfull, hobe, hone, hsz, hb, hm⟩, hd⟩ := hc
          intro B w0 S0 φ a w hr K Q hK ro
          have hsv := hr.ev s
          rw [hs] at hsv
          obtain ⟨us, hul, hes, hsrcs⟩ := appSrcF_sound hr hu ht hsz (hr.ev x) hsrc hone o.type
          obtain ⟨v', w', φ', hrun, hrel, hrep⟩ := hr.append ht hsv hi hfull hobe o.type hes hul hsrcs hsz hb hm
          refine B3 (hex a w v' w' hrun) (hK φ' _ _ ?_)
          have hlen : (C6 env i ob (m6 P env.objs t t' sz' z (ev env x)).2.2).objs.length = env.objs.length := by simp [C6]
          exact hrel.putO o.dst (okDst_nt (by exact rfl) hd) _ v' (by rw [hlen]; exact hrep)
        · exact hc.elim
      · rename_i hs
        obtain ⟨⟨hsrc, hone, hsz, hb, hm⟩, hd⟩ := hc
        intro B w0 S0 φ a w hr K Q hK ro
        have hsv := hr.ev s
        rw [hs] at hsv
        simp only [RepV, RepD] at hsv
        obtain ⟨us, hul, hes, hsrcs⟩ := appSrcF_sound hr hu ht hsz (hr.ev x) hsrc hone o.type
        have hv := hr.virt e
        have htu := (Grows.refl w).turns hr none (fun g' e => by cases e)
        have hlen1 : ({ env with objs := env.objs ++ [⟨[], e⟩] } : Env).objs.length = env.objs.length + 1 := by simp
        have hes' : RepVs w (Imm B S0 (φnew φ env.objs.length none) ({ env with objs := env.objs ++ [⟨[], e⟩] } : Env).objs.length) (φnew φ env.objs.length none) ({ env with objs := env.objs ++ [⟨[], e⟩] } : Env).objs.length (m6 P env.objs t t' sz z (ev env x)).2.2 us := by
          rw [hlen1]; exact RepVs.mono htu _ _ hes
        have hown : RepV w (Imm B S0 (φnew φ env.objs.length none) ({ env with objs := env.objs ++ [⟨[], e⟩] } : Env).objs.length) (φnew φ env.objs.length none) ({ env with objs := env.objs ++ [⟨[], e⟩] } : Env).objs.length (.own env.objs.length 0 0 sz) (a.eval s) := by
          rw [hlen1, hsv]; simp only [RepV]; exact ⟨by omega, .inl ⟨none, by simp⟩⟩
        obtain ⟨v', w', φ', hrun, hrel, hrep⟩ := hv.append ht hown (i := env.objs.length) (ob := ⟨[], e⟩) (by simp) (by simp) rfl o.type hes' hul hsrcs hsz (by simpa using hb) (by simpa using hm)
        refine B3 (hex a w v' w' hrun) (hK φ' _ _ ?_)
        have hlen : (C6 { env with objs := env.objs ++ [⟨[], e⟩] } env.objs.length ⟨[], e⟩ (m6 P env.objs t t' sz z (ev env x)).2.2).objs.length = ({ env with objs := env.objs ++ [⟨[], e⟩] } : Env).objs.length := by simp [C6]
        exact hrel.putO o.dst (okDst_nt (by exact rfl) hd) _ v' (by rw [hlen]; simpa using hrep)
      · exact hc.elim
    · exact hc.elim
  · exact hc.elim

theorem capF_sound {w : World} {S : Nat → Prop} {φ : Nat → Option Nat} {m : Nat} {t ty : TypeId} {x : V} {v : Value} (hx : RepV w S φ m x v) (hc : (capF P t x).1) :
    ∃ u, (Builtin.cap_ #[t] ty #[v]).run P w = .ok u w ∧ RepV w S φ m (capF P t x).2 u := by
  unfold capF at hc ⊢
  split at hc
  · rename_i e he
    have hu := o7 he
    simp only [RepV, RepD] at hx
    subst hx
    exact ⟨.int .i64 0, by simp [Builtin.cap_, run_underlying hu, goInt], by simp [RepV, RepD]⟩
  · exact hc.elim

theorem builtinF_sound {o : Oper} {b : Builtin} {xs : Array Operand} {ts : Array TypeId} (ho : o.op = .call { callee := .builtin b, args := xs, argTypes := ts })
    (hc : (E9 P env o.dst b ts.toList (xs.toList.map (ev env))).1) : Comes1 P o env (E9 P env o.dst b ts.toList (xs.toList.map (ev env))).2 := by
  obtain ⟨xs⟩ := xs
  obtain ⟨tsl⟩ := ts
  simp only at hc ⊢
  unfold E9 at hc ⊢
  split at hc
  · rename_i t x hx
    match xs, hx with
    | [x0], hx =>
      simp only [List.map_cons, List.map_nil, List.cons.injEq, and_true] at hx
      subst hx
      refine F8 hc fun h1 B w0 S0 φ a w hr => ?_
      obtain ⟨u, hu, hrep⟩ := lenF_sound (P := P) (ty := o.type) (hr.ev x0) h1
      refine ⟨u, ?_, hrep⟩
      obtain ⟨cs, hcs⟩ := n9 (a := a) ho
      rw [hcs]
      simp [builtin, hu]
  · rename_i x y hx
    match xs, hx with
    | [x0, y0], hx =>
      simp only [List.map_cons, List.map_nil, List.cons.injEq, and_true] at hx
      obtain ⟨rfl, rfl⟩ := hx
      refine F8 hc fun h1 B w0 S0 φ a w hr => ?_
      obtain ⟨u, hu, hrep⟩ := minF_sound (P := P) (hr.ev x0) (hr.ev y0) h1
      refine ⟨u, ?_, hrep⟩
      obtain ⟨cs, hcs⟩ := n9 (a := a) ho
      rw [hcs]
      simp [builtin, hu]
  · rename_i x y hx
    match xs, hx with
    | [x0, y0], hx =>
      simp only [List.map_cons, List.map_nil, List.cons.injEq, and_true] at hx
      obtain ⟨rfl, rfl⟩ := hx
      refine F8 hc fun h1 B w0 S0 φ a w hr => ?_
      obtain ⟨u, hu, hrep⟩ := maxF_sound (P := P) (hr.ev x0) (hr.ev y0) h1
      refine ⟨u, ?_, hrep⟩
      obtain ⟨cs, hcs⟩ := n9 (a := a) ho
      rw [hcs]
      simp [builtin, hu]
  · rename_i x y z hx
    match xs, hx with
    | [x0, y0, z0], hx =>
      simp only [List.map_cons, List.map_nil, List.cons.injEq, and_true] at hx
      obtain ⟨rfl, rfl, rfl⟩ := hx
      refine F8 hc fun h1 B w0 S0 φ a w hr => ?_
      obtain ⟨u, hu, hrep⟩ := min3F_sound (P := P) (hr.ev x0) (hr.ev y0) (hr.ev z0) h1
      refine ⟨u, ?_, hrep⟩
      obtain ⟨cs, hcs⟩ := n9 (a := a) ho
      rw [hcs]
      simp [builtin, hu]
  · rename_i x y z hx
    match xs, hx with
    | [x0, y0, z0], hx =>
      simp only [List.map_cons, List.map_nil, List.cons.injEq, and_true] at hx
      obtain ⟨rfl, rfl, rfl⟩ := hx
      refine F8 hc fun h1 B w0 S0 φ a w hr => ?_
      obtain ⟨u, hu, hrep⟩ := max3F_sound (P := P) (hr.ev x0) (hr.ev y0) (hr.ev z0) h1
      refine ⟨u, ?_, hrep⟩
      obtain ⟨cs, hcs⟩ := n9 (a := a) ho
      rw [hcs]
      simp [builtin, hu]
  · rename_i t t' s x hx
    match xs, hx with
    | [x0, y0], hx =>
      simp only [List.map_cons, List.map_nil, List.cons.injEq, and_true] at hx
      obtain ⟨rfl, rfl⟩ := hx
      exact appendF_sound ho hc
  · rename_i t x hx
    match xs, hx with
    | [x0], hx =>
      simp only [List.map_cons, List.map_nil, List.cons.injEq, and_true] at hx
      subst hx
      refine F8 hc fun h1 B w0 S0 φ a w hr => ?_
      obtain ⟨u, hu, hrep⟩ := capF_sound (P := P) (ty := o.type) (hr.ev x0) h1
      refine ⟨u, ?_, hrep⟩
      obtain ⟨cs, hcs⟩ := n9 (a := a) ho
      rw [hcs]
      simp [builtin, hu]
  · exact hc.elim

theorem stepF_sound {o : Oper} (hc : (y8 P env o).1) : Comes1 P o env (y8 P env o).2 := by
  have hpure : (y8 P env o) = pureF env o.dst (opF P env o.op) → Comes1 P o env (y8 P env o).2 := by
    intro he
    rw [he] at hc ⊢
    exact F8 hc fun h1 B w0 S0 φ a w hr => opF_sound hr h1
  cases ho : o.op with
  | store t p v => simp only [y8, ho] at hc ⊢; exact storeF_sound ho hc
  | box e x => simp only [y8, ho] at hc ⊢; exact boxF_sound ho hc
  | alloc e => simp only [y8, ho] at hc ⊢; exact allocF_sound ho hc
  | buildSlice t n parts => simp only [y8, ho] at hc ⊢; exact buildSliceF_sound ho hc
  | makeSlice t l c => simp only [y8, ho] at hc ⊢; exact makeSliceF_sound ho hc
  | build t parts => simp only [y8, ho] at hc ⊢; exact F8 hc fun h1 B w0 S0 φ a w hr => buildF_sound ho hr h1
  | makeFunc fn first caps =>
    cases fn with
    | func f =>
      simp only [y8, ho] at hc ⊢
      obtain ⟨hf, hd⟩ := hc
      intro B w0 S0 φ a w hr K Q hK ro
      have hf' : first = #[] := Array.toList_inj.1 (by simpa using hf)
      refine B3 (v := .func (.func f) #[] (caps.map a.eval)) (by simp [execOp, ho, Instr.makeFunc, hf']) (hK φ _ _ (hr.putO o.dst hd _ _ ?_))
      simp only [RepV]
      exact ⟨caps.toList.map a.eval, by congr 1; apply Array.toList_inj.1; simp, hr.evs _⟩
    | _ => simp only [y8, ho, pureF, opF, bad, false_and] at hc
  | call c =>
    obtain ⟨callee, args, argTypes⟩ := c
    cases callee with
    | builtin b => simp only [y8, ho] at hc ⊢; exact builtinF_sound ho hc
    | _ => simp only [y8, ho] at hc
  | _ => exact hpure (by simp only [y8, ho])
end
end Go.PW
