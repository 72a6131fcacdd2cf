import Derived.Test.YtbndgoeahoadlaaGreatDoorPwE
set_option linter.all false
namespace Go.PW
open Go.RowKit

section
variable {P : Program} {w : World} {S : Nat → Prop} {φ : Nat → Option Nat} {m : Nat}

def OptRep (w : World) (S : Nat → Prop) (φ : Nat → Option Nat) (m : Nat) : Option V → Option Value → Prop
 | none, none => True
 | some x, some v => RepV w S φ m x v
 | _, _ => False

theorem r7 {lo : Option V} {vl : Option Value} {d l : Int} (h : OptRep w S φ m lo vl) (hl : optInt lo d = some l) : (vl = none ∧ l = d) ∨ ∃ k, vl = some (.int k l) := by
 unfold optInt at hl
 split at hl
 ·
  cases vl with
  | none => simp at hl; exact .inl ⟨rfl, hl.symm⟩
  | some v => simp [OptRep] at h
 ·
  rename_i k n
  cases vl with
  | none => simp [OptRep] at h
  | some v => simp [OptRep, RepV, RepD] at h; simp at hl; subst h; subst hl; exact .inr ⟨k, rfl⟩
 · cases hl

theorem run_bounds (isS : Bool) {n cap : Nat} {vl vh : Option Value} {l h : Int} (hl : (vl = none ∧ l = 0) ∨ ∃ k, vl = some (.int k l)) (hh : (vh = none ∧ h = n) ∨ ∃ k, vh = some (.int k h))
  (h0 : 0 ≤ l) (h1 : l ≤ h) (h2 : h ≤ n) (h3 : n ≤ cap) : (Instr.sliceBounds isS n cap vl vh none).run P w = .ok (l.toNat, h.toNat, cap) w := by
 have e1 : 0 ≤ h := by omega
 have e2 : h ≤ (cap : Int) := by omega
 have e3 : max h 0 = h := by omega
 rcases hl with ⟨rfl, rfl⟩ | ⟨k, rfl⟩ <;> rcases hh with ⟨rfl, rfl⟩ | ⟨k', rfl⟩
 · simp [Instr.sliceBounds]
 · simp [Instr.sliceBounds, Instr.sliceBound, asIntOf, e1, e2]
 · simp [Instr.sliceBounds, Instr.sliceBound, asIntOf, h0, h1]
 · simp [Instr.sliceBounds, Instr.sliceBound, asIntOf, e1, e2, h0, e3, h1]

theorem run_bounds3 {n cap : Nat} {kl kh km : IntKind} {l h mx : Int} (h0 : 0 ≤ l) (h1 : l ≤ h) (h2 : h ≤ mx) (h3 : mx ≤ n) (h4 : n ≤ cap) :
  (Instr.sliceBounds true n cap (some (.int kl l)) (some (.int kh h)) (some (.int km mx))).run P w = .ok (l.toNat, h.toNat, mx.toNat) w := by
 have e1 : 0 ≤ mx := by omega
 have e2 : mx ≤ (cap : Int) := by omega
 have e3 : 0 ≤ h := by omega
 have e4 : max mx 0 = mx := by omega
 have e5 : max h 0 = h := by omega
 simp [Instr.sliceBounds, Instr.sliceBound, asIntOf, e1, e2, e3, e4, e5, h0, h1, h2]

theorem slice3F_sound {t : TypeId} {x lo hi mx : V} {v vl vh vm : Value} (hx : RepV w S φ m x v) (hlo : RepV w S φ m lo vl) (hhi : RepV w S φ m hi vh) (hmx : RepV w S φ m mx vm)
  (hc : (slice3F P t x lo hi mx).1) : ∃ u, (Instr.sliceAt t v (some vl) (some vh) (some vm)).run P w = .ok u w ∧ RepV w S φ m (slice3F P t x lo hi mx).2 u := by
 unfold slice3F at hc ⊢
 split at hc
 ·
  rename_i n cells kl l kh h km mm
  split at hc
  ·
   rename_i e he
   have hu := o7 he
   split at hc
   ·
    rename_i s b z ht
    obtain ⟨c0, c1, c2, c3⟩ := hc
    simp only [RepV, RepD] at hx hlo hhi hmx
    subst hlo; subst hhi; subst hmx
    obtain ⟨a, cap, rfl, hn, hcl⟩ := hx
    have hb := run_bounds3 (P := P) (w := w) (kl := kl) (kh := kh) (km := km) c0 c1 c2 c3 hn
    refine ⟨_, by simp only [Instr.sliceAt, Instr.slice, Sem.run_bind, run_underlying hu, Result.andThen_ok, hb, l6 ht, Sem.run_pure]; rfl, ?_⟩
    simp only [RepV, RepD]
    refine ⟨_, _, rfl, by omega, ?_⟩
    rcases hcl with rfl | ⟨bl, o, rfl, hr⟩
    · left; simp
    ·
     by_cases hcap : mm.toNat = l.toNat
     ·
      left
      have e1 : h.toNat - l.toNat = 0 := by omega
      simp [e1]
     ·
      right
      refine ⟨bl, o + l.toNat * s, by simp [hcap, Addr.add_lit], ?_⟩
      exact RepCells.take _ _ _ _ (RepCells.drop _ _ _ _ hr)
   · exact hc.elim
  · exact hc.elim
 · exact hc.elim

theorem sliceF_sound {t : TypeId} {x : V} {v : Value} {lo hi : Option V} {vl vh : Option Value} (hx : RepV w S φ m x v) (hlo : OptRep w S φ m lo vl) (hhi : OptRep w S φ m hi vh)
  (hc : (sliceF P t x lo hi).1) : ∃ u, (Instr.sliceAt t v vl vh none).run P w = .ok u w ∧ RepV w S φ m (sliceF P t x lo hi).2 u := by
 unfold sliceF at hc ⊢
 split at hc
 ·
  rename_i i off n sz
  split at hc
  ·
   rename_i e l h he h1 h2
   have hu := o7 he
   split at hc
   ·
    rename_i s b z ht
    obtain ⟨c0, c1, c2, rfl, hs0⟩ := hc
    have hpos : 0 < sz := Nat.pos_of_ne_zero hs0
    simp only [RepV] at hx
    obtain ⟨hi', ⟨a, rfl, rfl, hoff⟩ | ⟨g, cap, cur, el, hg, rfl, hn, hm, hh, hroom⟩⟩ := hx
    ·
     have hb := run_bounds (P := P) (w := w) true (r7 hlo h1) (r7 hhi h2) c0 c1 c2 (Nat.le_refl 0)
     have e1 : l.toNat = 0 := by omega
     have e2 : h.toNat = 0 := by omega
     refine ⟨.slice a 0 0, ?_, ?_⟩
     ·
      simp only [Instr.sliceAt, Instr.slice, Sem.run_bind, run_underlying hu, Result.andThen_ok, hb, l6 ht, Sem.run_pure, e1, e2]
      simp
     · simp only [RepV]; exact ⟨hi', .inl ⟨a, rfl, by omega, fun h => hoff (by omega)⟩⟩
    ·
     have hb := run_bounds (P := P) (w := w) true (r7 hlo h1) (r7 hhi h2) c0 c1 c2 hn
     refine ⟨_, by simp only [Instr.sliceAt, Instr.slice, Sem.run_bind, run_underlying hu, Result.andThen_ok, hb, l6 ht, Sem.run_pure]; rfl, ?_⟩
     simp only [RepV]
     refine ⟨hi', ?_⟩
     by_cases hcap : cap = l.toNat ∧ 0 < l.toNat
     ·
      left
      obtain ⟨hcap, hl0⟩ := hcap
      have e1 : h.toNat - l.toNat = 0 := by omega
      refine ⟨some ⟨g, off, none⟩, ?_, by omega, fun h0 => ?_⟩
      · simp [hcap, e1]
      ·
       have : 0 < l.toNat * sz := Nat.mul_pos hl0 hpos
       omega
     ·
      right
      refine ⟨g, cap - l.toNat, cur, el, hg, ?_, by omega, by omega, hh, ?_⟩
      ·
       by_cases hl0 : l.toNat = 0
       · simp [hl0, Addr.add_lit]
       · simp [show ¬ cap = l.toNat by omega, Addr.add_lit]
      ·
       have : l.toNat * sz + (cap - l.toNat) * sz = cap * sz := by rw [← Nat.add_mul]; congr 1; omega
       omega
   · exact hc.elim
  · exact hc.elim
 ·
  rename_i n cells
  split at hc
  ·
   rename_i e l h he h1 h2
   have hu := o7 he
   split at hc
   ·
    rename_i s b z ht
    obtain ⟨c0, c1, c2⟩ := hc
    simp only [RepV, RepD] at hx
    obtain ⟨a, cap, rfl, hn, hcl⟩ := hx
    have hb := run_bounds (P := P) (w := w) true (r7 hlo h1) (r7 hhi h2) c0 c1 c2 hn
    refine ⟨_, by simp only [Instr.sliceAt, Instr.slice, Sem.run_bind, run_underlying hu, Result.andThen_ok, hb, l6 ht, Sem.run_pure]; rfl, ?_⟩
    simp only [RepV, RepD]
    refine ⟨_, _, rfl, by omega, ?_⟩
    rcases hcl with rfl | ⟨bl, o, rfl, hr⟩
    · left; simp
    ·
     by_cases hcap : cap = l.toNat
     ·
      left
      have e1 : h.toNat - l.toNat = 0 := by omega
      simp [e1]
     ·
      right
      refine ⟨bl, o + l.toNat * s, by simp [hcap, Addr.add_lit], ?_⟩
      exact RepCells.take _ _ _ _ (RepCells.drop _ _ _ _ hr)
   · exact hc.elim
  · exact hc.elim
 ·
  rename_i b
  split at hc
  ·
   rename_i l h he h1 h2
   have hu := isStrT_spec he
   obtain ⟨c0, c1, c2⟩ := hc
   simp only [RepV, RepD] at hx
   subst hx
   have hb := run_bounds (P := P) (w := w) false (r7 hlo h1) (r7 hhi h2) c0 c1 c2 (Nat.le_refl _)
   refine ⟨.string (b.extract l.toNat h.toNat), ?_, by simp [RepV, RepD]⟩
   simp only [Instr.sliceAt, Instr.slice, Sem.run_bind, run_underlying hu, Result.andThen_ok, hb, Sem.run_pure, Option.isSome_none, Bool.false_eq_true, if_false]
  · exact hc.elim
 ·
  split at hc
  ·
   rename_i e l h he h1 h2
   have hu := o7 he
   split at hc
   ·
    rename_i s b z ht
    obtain ⟨c0, c1, c2⟩ := hc
    simp only [RepV, RepD] at hx
    subst hx
    have hb := run_bounds (P := P) (w := w) true (r7 hlo h1) (r7 hhi h2) c0 c1 c2 (Nat.le_refl 0)
    have e1 : l.toNat = 0 := by omega
    have e2 : h.toNat = 0 := by omega
    refine ⟨.slice none 0 0, ?_, by simp [RepV, RepD]⟩
    simp only [Instr.sliceAt, Instr.slice, Sem.run_bind, run_underlying hu, Result.andThen_ok, hb, l6 ht, Sem.run_pure, e1, e2]
    simp
   · exact hc.elim
  · exact hc.elim
 ·
  rename_i cells
  split at hc
  ·
   rename_i n e he
   have hu := arrOf_spec he
   split at hc
   ·
    rename_i l h s b z h1 h2 ht
    obtain ⟨c0, c1, c2⟩ := hc
    simp only [RepV, RepD] at hx
    obtain ⟨bl, o, rfl, hr⟩ := hx
    have hb := run_bounds (P := P) (w := w) false (r7 hlo h1) (r7 hhi h2) c0 c1 c2 (Nat.le_refl n)
    refine ⟨_, by simp only [Instr.sliceAt, Instr.sureAddr, Sem.run_bind, run_underlying hu, Result.andThen_ok, hb, l6 ht, Sem.run_pure]; rfl, ?_⟩
    simp only [RepV, RepD]
    refine ⟨_, _, rfl, by omega, ?_⟩
    by_cases hcap : n = l.toNat
    ·
     left
     have e1 : h.toNat - l.toNat = 0 := by omega
     simp [e1]
    ·
     right
     refine ⟨bl, o + l.toNat * s, by simp [hcap, Addr.add_lit], ?_⟩
     exact RepCells.take _ _ _ _ (RepCells.drop _ _ _ _ hr)
   · exact hc.elim
  · exact hc.elim
 · exact hc.elim

theorem indexF_sound {t : TypeId} {x ix : V} {v u : Value} (hx : RepV w S φ m x v) (hi : RepV w S φ m ix u) (hc : (indexF P t x ix).1) :
  ∃ y, (Instr.index t v u).run P w = .ok y w ∧ RepV w S φ m (indexF P t x ix).2 y := by
 unfold indexF at hc ⊢
 split at hc
 ·
  rename_i b kk k
  simp only [RepV, RepD] at hx hi
  subst hx; subst hi
  obtain ⟨hs, h0, h1⟩ := hc
  have hu := isStrT_spec hs
  have hk : k.toNat < b.size := by omega
  refine ⟨.int .u8 (b.data.getD k.toNat 0).toNat, ?_, A4⟩
  have hb : b[k.toNat]? = some b[k.toNat] := by simp [hk]
  have hd : b.data.getD k.toNat 0 = b[k.toNat] := by
   have : k.toNat < b.data.size := hk
   simp [Array.getD, hk]; rfl
  simp [Instr.index, asIntOf, run_underlying hu, h0, hb, hd]
 ·
  rename_i cells kk k
  simp only [RepV, RepD] at hx hi
  obtain ⟨vs, rfl, hr⟩ := hx
  subst hi
  have hl := RepVs.length _ _ hr
  split at hc
  ·
   rename_i n e ha
   have hu := arrOf_spec ha
   split at hc
   ·
    rename_i s b z ht hagg
    obtain ⟨h0, h1, h2⟩ := hc
    refine ⟨.agg ((vs.drop (k.toNat * s)).take s).toArray, ?_, ?_⟩
    · simp [Instr.index, asIntOf, run_underlying hu, h0, h1, l6 ht, part, z6 hagg]
    · simp only [RepV]; exact ⟨_, rfl, hr.sub _ _ h2⟩
   ·
    rename_i s b z ht hagg
    obtain ⟨h0, h1, h2⟩ := hc
    obtain ⟨y, hy, hry⟩ := hr.one (k.toNat * s) h2
    refine ⟨y, ?_, hry⟩
    simp [Instr.index, asIntOf, run_underlying hu, h0, h1, l6 ht, part, z6 hagg, hy]
   · exact hc.elim
  · exact hc.elim
 · exact hc.elim

theorem minF_sound {x y : V} {vx vy : Value} (hx : RepV w S φ m x vx) (hy : RepV w S φ m y vy) (hc : (minF x y).1) :
  ∃ u, (∀ ts ty, (Builtin.min_ ts ty #[vx, vy]).run P w = .ok u w) ∧ RepV w S φ m (minF x y).2 u := by
 unfold minF at hc ⊢
 split at hc
 ·
  rename_i k a k' b
  simp only [RepV, RepD] at hx hy; subst hx; subst hy
  exact ⟨.int k (if b < a then b else a), fun _ _ => by simp [Builtin.min_, Builtin.min2], A4⟩
 · exact hc.elim
theorem maxF_sound {x y : V} {vx vy : Value} (hx : RepV w S φ m x vx) (hy : RepV w S φ m y vy) (hc : (maxF x y).1) :
  ∃ u, (∀ ts ty, (Builtin.max_ ts ty #[vx, vy]).run P w = .ok u w) ∧ RepV w S φ m (maxF x y).2 u := by
 unfold maxF at hc ⊢
 split at hc
 ·
  rename_i k a k' b
  simp only [RepV, RepD] at hx hy; subst hx; subst hy
  exact ⟨.int k (if a < b then b else a), fun _ _ => by simp [Builtin.max_, Builtin.max2], A4⟩
 · exact hc.elim
theorem min3F_sound {x y z : V} {vx vy vz : Value} (hx : RepV w S φ m x vx) (hy : RepV w S φ m y vy) (hz : RepV w S φ m z vz) (hc : (min3F x y z).1) :
  ∃ u, (∀ ts ty, (Builtin.min_ ts ty #[vx, vy, vz]).run P w = .ok u w) ∧ RepV w S φ m (min3F x y z).2 u := by
 unfold min3F minF at hc ⊢
 dsimp only at hc ⊢
 split at hc
 ·
  rename_i k a k' b
  dsimp only at hc ⊢
  simp only [vint] at hc ⊢
  split at hc
  ·
   rename_i k1 a1 k2 c he
   cases he
   simp only [RepV, RepD] at hx hy hz; subst hx; subst hy; subst hz
   exact ⟨.int k (if c < (if b < a then b else a) then c else (if b < a then b else a)), fun _ _ => by simp [Builtin.min_, Builtin.min2], by simp [vint, RepV, RepD]⟩
  · exact hc.2.elim
 · exact hc.1.elim
theorem max3F_sound {x y z : V} {vx vy vz : Value} (hx : RepV w S φ m x vx) (hy : RepV w S φ m y vy) (hz : RepV w S φ m z vz) (hc : (max3F x y z).1) :
  ∃ u, (∀ ts ty, (Builtin.max_ ts ty #[vx, vy, vz]).run P w = .ok u w) ∧ RepV w S φ m (max3F x y z).2 u := by
 unfold max3F maxF at hc ⊢
 dsimp only at hc ⊢
 split at hc
 ·
  rename_i k a k' b
  dsimp only at hc ⊢
  simp only [vint] at hc ⊢
  split at hc
  ·
   rename_i k1 a1 k2 c he
   cases he
   simp only [RepV, RepD] at hx hy hz; subst hx; subst hy; subst hz
   exact ⟨.int k (if (if a < b then b else a) < c then c else (if a < b then b else a)), fun _ _ => by simp [Builtin.max_, Builtin.max2], by simp [vint, RepV, RepD]⟩
  · exact hc.2.elim
 · exact hc.1.elim
end
end Go.PW
