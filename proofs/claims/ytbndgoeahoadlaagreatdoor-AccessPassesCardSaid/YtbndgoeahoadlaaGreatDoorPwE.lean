import Derived.Test.YtbndgoeahoadlaaGreatDoorPwD
import Derived.Laws.Small
import Derived.Laws.StructEq
import Derived.Laws.Pointers
set_option linter.all false
namespace Go.PW
open Go.RowKit

section
variable {P : Program} {w : World} {S : Nat → Prop} {φ : Nat → Option Nat} {m : Nat}

theorem aggV_spec {x : V} {v : Value} {cells : List V} (hx : RepV w S φ m x v) (h : aggV x = some cells) : ∃ vs : List Value, v = .agg vs.toArray ∧ RepVs w S φ m cells vs := by
  unfold aggV at h
  split at h
  · cases h; simpa only [RepV] using hx
  · cases h
    simp only [RepV, RepD] at hx
    obtain ⟨vs, rfl, hr⟩ := hx
    exact ⟨vs, rfl, hr.repVs⟩
  · cases h

theorem fieldF_sound {t f : Nat} {x : V} {v : Value} (hx : RepV w S φ m x v) (hc : (fieldF P t x f).1) :
    ∃ u, (Instr.field t v f).run P w = .ok u w ∧ RepV w S φ m (fieldF P t x f).2 u := by
  unfold fieldF at hc ⊢
  split at hc
  · rename_i off ft cells hf hag
    obtain ⟨fs, fd, hu, hfd, ho, hft⟩ := fldOff_spec hf
    subst hft; subst ho
    obtain ⟨vs, rfl, hr⟩ := aggV_spec hx hag
    have hl := RepVs.length _ _ hr
    split at hc
    · rename_i s b z ht ha
      refine ⟨.agg ((vs.drop fd.offset).take s).toArray, ?_, ?_⟩
      · simp [Instr.field, run_underlying hu, hfd, asAgg, part, z6 ha, l6 ht]
      · simp only [RepV]; exact ⟨_, rfl, hr.sub _ _ hc⟩
    · rename_i x' ht ha
      obtain ⟨u, hu', hru⟩ := hr.one fd.offset hc
      refine ⟨u, ?_, hru⟩
      simp [Instr.field, run_underlying hu, hfd, asAgg, part, z6 ha, hu']
    · exact hc.elim
  · exact hc.elim

theorem extractF_sound {k : Nat} {x : V} {v : Value} (hx : RepV w S φ m x v) (hc : (extractF x k).1) :
    ∃ u, (Instr.extract v k).run P w = .ok u w ∧ RepV w S φ m (extractF x k).2 u := by
  unfold extractF at hc ⊢
  split at hc
  · rename_i vs
    simp only [RepV] at hx
    obtain ⟨us, rfl, hr⟩ := hx
    obtain ⟨u, hu, hru⟩ := hr.one k hc
    exact ⟨u, by simp [Instr.extract, hu], hru⟩
  · rename_i ds
    simp only [RepV, RepD] at hx
    obtain ⟨us, rfl, hr⟩ := hx
    have h1 := RepAll.get ds us hr k hc
    have hl := RepAll.length _ _ hr
    have hk : k < us.length := by simp only at hc; omega
    refine ⟨us[k], by simp [Instr.extract, hk], ?_⟩
    rw [List.getD_eq_getElem?_getD, List.getD_eq_getElem?_getD] at h1
    simp only [RepV]
    simpa [hk, List.getD_eq_getElem?_getD] using h1
  · exact hc.elim

theorem lenF_sound {t ty : TypeId} {x : V} {v : Value} (hx : RepV w S φ m x v) (hc : (lenF P t x).1) :
    ∃ u, (Builtin.len_ #[t] ty #[v]).run P w = .ok u w ∧ RepV w S φ m (lenF P t x).2 u := by
  unfold lenF at hc ⊢
  split at hc
  · rename_i e i off n sz he
    have hu := o7 he
    simp only [RepV] at hx
    obtain ⟨_, ⟨a, rfl, rfl, _⟩ | ⟨g, cap, cur, el, hg, rfl, _⟩⟩ := hx
    · exact ⟨.int .i64 0, by simp [Builtin.len_, run_underlying hu, goInt], by simp [vint, RepV, RepD]⟩
    · exact ⟨.int .i64 n, by simp [Builtin.len_, run_underlying hu, goInt], by simp [vint, RepV, RepD]⟩
  · rename_i e n cells he
    have hu := o7 he
    simp only [RepV, RepD] at hx
    obtain ⟨a, cap, rfl, _⟩ := hx
    exact ⟨.int .i64 n, by simp [Builtin.len_, run_underlying hu, goInt], by simp [vint, RepV, RepD]⟩
  · rename_i e a n cap he
    have hu := o7 he
    simp only [RepV, RepD] at hx
    subst hx
    exact ⟨.int .i64 n, by simp [Builtin.len_, run_underlying hu, goInt], by simp [vint, RepV, RepD]⟩
  · rename_i s he
    have hu := isStrT_spec hc
    simp only [RepV, RepD] at hx
    subst hx
    exact ⟨.int .i64 s.size, by simp [Builtin.len_, run_underlying hu, goInt], by simp [vint, RepV, RepD]⟩
  · exact hc.elim

theorem A4 {k : IntKind} {n : Int} : RepV w S φ m (vint k n) (.int k n) := by simp [vint, RepV, RepD]
theorem q7 {b : Bool} : RepV w S φ m (A0 b) (.bool b) := by simp [A0, RepV, RepD]

theorem unF_sound {op : UnOp} {x : V} {v : Value} (hx : RepV w S φ m x v) (hc : (unF op x).1) : ∃ u, (Op.unary op v).run P w = .ok u w ∧ RepV w S φ m (unF op x).2 u := by
  unfold unF at hc ⊢
  split at hc
  · rename_i k n
    simp only [RepV, RepD] at hx; subst hx
    exact ⟨.int k (k.wrap (0 - n)), by simp [Op.unary, Op.intArith], A4⟩
  · rename_i b
    simp only [RepV, RepD] at hx; subst hx
    exact ⟨.bool (!b), by simp [Op.unary], q7⟩
  · exact hc.elim

theorem convF_sound {s t : TypeId} {x : V} {v : Value} (hx : RepV w S φ m x v) (hc : (convF P s t x).1) : ∃ u, (convert s t v).run P w = .ok u w ∧ RepV w S φ m (convF P s t x).2 u := by
  unfold convF at hc ⊢
  split at hc
  · rename_i k n
    simp only [RepV, RepD] at hx; subst hx
    split at hc
    · rename_i k1 k2 h1 h2
      exact ⟨.int k2 (k2.wrap n), by simp [convert, run_underlying (kindOf_spec h1), run_underlying (kindOf_spec h2), Conv.intToInt], A4⟩
    · exact hc.elim
  · exact hc.elim

theorem boolV_rep {a : V} {va : Value} (ha : RepV w S φ m a va) (h : (boolV a).isSome = true) : va = .bool ((boolV a).getD false) := by
  unfold boolV at h ⊢
  split at h
  · simp only [RepV, RepD] at ha; subst ha; rfl
  · cases h
theorem pickF_sound {c a b : V} {vc va vb : Value} (hc : RepV w S φ m c vc) (ha : RepV w S φ m a va) (hb : RepV w S φ m b vb) (h : (pickF c a b).1) :
    ∃ x, vc = .bool x ∧ RepV w S φ m (pickF c a b).2 (if x then va else vb) := by
  unfold pickF at h ⊢
  split at h
  · rename_i x
    simp only [RepV, RepD] at hc; subst hc
    refine ⟨x, rfl, ?_⟩
    obtain ⟨h1, h2⟩ := h
    cases x with
    | true =>
      have := boolV_rep (strip_rep (g := true) rfl ha) (h1 rfl)
      subst this
      simp [pickC, A0, RepV, RepD]
    | false =>
      have := boolV_rep (strip_rep (g := !false) rfl hb) (h2 rfl)
      subst this
      simp [pickC, A0, RepV, RepD]
  · exact h.elim

theorem nilF_sound {x : V} {v : Value} (hx : RepV w S φ m x v) (hc : (nilF x).1) : ∃ a, v = .pointer (some a) ∧ (nilF x).2 = x := by
  unfold nilF at hc ⊢
  split at hc
  · simp only [RepV] at hx; obtain ⟨_, g, _, rfl⟩ := hx; exact ⟨_, rfl, rfl⟩
  · simp only [RepV, RepD] at hx; obtain ⟨b, o, rfl, _⟩ := hx; exact ⟨_, rfl, rfl⟩
  · exact hc.elim

def leafV : Lk → Value → Value → Option Bool
  | .int, .int k a, .int k' b => if k = k' then some (a == b) else none
  | .bool, .bool a, .bool b => some (a == b)
  | .str, .string a, .string b => some (a.toList == b.toList)
  | _, _, _ => none
def E5 : List (Nat × Lk) → (Nat → Option Value) → (Nat → Option Value) → Option Bool
  | [], _, _ => some true
  | (o, k) :: r, xs, ys => match xs o, ys o with
    | some x, some y => match leafV k x y, E5 r xs ys with
      | some a, some b => some (a && b)
      | _, _ => none
    | _, _ => none
theorem eqVals_append (p q : List (Nat × Lk)) (xs ys : Nat → Option Value) (b : Bool) (h : E5 (p ++ q) xs ys = some b) : ∃ b1 b2, E5 p xs ys = some b1 ∧ E5 q xs ys = some b2 ∧ b = (b1 && b2) := by
  induction p generalizing b with
  | nil => exact ⟨true, b, rfl, h, by simp⟩
  | cons x p ih =>
    obtain ⟨o, k⟩ := x
    simp only [List.cons_append, E5] at h ⊢
    split at h
    · rename_i u v h1 h2
      split at h
      · rename_i a c h3 h4
        obtain ⟨b1, b2, e1, e2, rfl⟩ := ih c h4
        cases h
        exact ⟨a && b1, b2, by simp only [h1, h2, h3, e1], e2, by rw [Bool.and_assoc]⟩
      · cases h
    · cases h
theorem eqVals_shift (p : List (Nat × Lk)) (c : Nat) (xs ys : Nat → Option Value) : E5 (p.map fun x => (c + x.1, x.2)) xs ys = E5 p (fun i => xs (c + i)) (fun i => ys (c + i)) := by
  induction p with
  | nil => rfl
  | cons x p ih => obtain ⟨o, k⟩ := x; simp only [List.map_cons, E5, ih]
theorem eqVals_congr (p : List (Nat × Lk)) (n : Nat) (hn : p.all (fun x => decide (x.1 < n)) = true) {xs ys xs' ys' : Nat → Option Value} (hx : ∀ i, i < n → xs i = xs' i) (hy : ∀ i, i < n → ys i = ys' i) : E5 p xs ys = E5 p xs' ys' := by
  induction p with
  | nil => rfl
  | cons x p ih =>
    obtain ⟨o, k⟩ := x
    simp only [List.all_cons, Bool.and_eq_true, decide_eq_true_eq] at hn
    simp only [E5, hx o hn.1, hy o hn.1, ih hn.2]
theorem sizeT_run {P : Program} {t : TypeId} (h : (P.info? t).isSome = true) (w : World) : (sizeOf t).run P w = .ok (sizeT P t) w := by
  unfold sizeT
  cases hi : P.info? t with
  | none => simp [hi] at h
  | some i => simp [Go.sizeOf, typeInfo, hi]
def valOf (P : Program) (t : TypeId) (cs : Array Value) : Value := match P.underlying t with | some (.struct _) | some (.array _ _) => .agg cs | _ => cs.getD 0 undef
theorem r5 {P : Program} {t : TypeId} {d : TypeDesc} (h : P.underlying t = some d) : (P.info? t).isSome = true := by
  cases hi : P.info? t with
  | none => simp [Program.underlying, hi] at h
  | some i => rfl
theorem getElem?_extract' (xs : Array Value) (o s i : Nat) (h : i < s) : (xs.extract o (o + s))[i]? = xs[o + i]? := by
  rw [Array.getElem?_extract]
  split
  · rfl
  · rw [Array.getElem?_eq_none]; omega
theorem part_run {P : Program} {d : Nat} {t : TypeId} {p : List (Nat × Lk)} (hp : eqPlan P d t = some p) (hs : p.all (fun x => decide (x.1 < sizeT P t)) = true) (w : World) (xs : Array Value) (o : Nat)
    (hx : ∀ x ∈ p, (xs[o + x.1]?).isSome = true) : (part t xs o).run P w = .ok (valOf P t (xs.extract o (o + sizeT P t))) w := by
  cases d with
  | zero => cases hp
  | succ d =>
    have leaf : ∀ k, (isAgg t).run P w = .ok false w → (∀ cs, valOf P t cs = cs.getD 0 undef) → p = [(0, k)] → (part t xs o).run P w = .ok (valOf P t (xs.extract o (o + sizeT P t))) w := by
      intro k ha hv e
      subst e
      have h0 := hx (0, k) (List.mem_singleton.2 rfl)
      simp only [Nat.add_zero] at h0
      obtain ⟨v, hv0⟩ := Option.isSome_iff_exists.1 h0
      have hs0 : 0 < sizeT P t := by simpa using hs
      have h1 := getElem?_extract' xs o (sizeT P t) 0 hs0
      rw [Nat.add_zero, hv0] at h1
      rw [hv, Array.getD_eq_getD_getElem?, h1]
      simp [part, ha, hv0]
    have agg : ∀ dd, P.underlying t = some dd → (isAgg t).run P w = .ok true w → (∀ cs, valOf P t cs = .agg cs) → (part t xs o).run P w = .ok (valOf P t (xs.extract o (o + sizeT P t))) w := by
      intro dd hu ha hv
      simp [part, ha, hv, sizeT_run (r5 hu) w]
    unfold eqPlan at hp
    split at hp
    · rename_i k hu
      exact leaf _ (z6 (by simp [aggOf, hu]) w) (fun cs => by simp [valOf, hu]) (Option.some.inj hp).symm
    · rename_i hu
      exact leaf _ (z6 (by simp [aggOf, hu]) w) (fun cs => by simp [valOf, hu]) (Option.some.inj hp).symm
    · rename_i hu
      exact leaf _ (z6 (by simp [aggOf, hu]) w) (fun cs => by simp [valOf, hu]) (Option.some.inj hp).symm
    · rename_i fs hu
      exact agg _ hu (z6 (by simp [aggOf, hu]) w) (fun cs => by simp [valOf, hu])
    · rename_i n e hu
      exact agg _ hu (z6 (by simp [aggOf, hu]) w) (fun cs => by simp [valOf, hu])
    · cases hp
theorem eqVals_some {p : List (Nat × Lk)} {xs ys : Nat → Option Value} {b : Bool} (h : E5 p xs ys = some b) : (∀ x ∈ p, (xs x.1).isSome = true) ∧ ∀ x ∈ p, (ys x.1).isSome = true := by
  induction p generalizing b with
  | nil => simp
  | cons x p ih =>
    obtain ⟨o, k⟩ := x
    simp only [E5] at h
    split at h
    · rename_i u v h1 h2
      split at h
      · rename_i a c h3 h4
        obtain ⟨i1, i2⟩ := ih h4
        simp only [List.mem_cons]
        exact ⟨fun x hx => by rcases hx with rfl | hx; · simp [h1]
                              · exact i1 x hx, fun x hx => by rcases hx with rfl | hx; · simp [h2]
                                                              · exact i2 x hx⟩
      · cases h
    · cases h
theorem eqPlan_sound {P : Program} (w : World) : ∀ (d : Nat) (t : TypeId) (p : List (Nat × Lk)), eqPlan P d t = some p → ∀ (xs ys : Array Value) (b : Bool), E5 p (fun i => xs[i]?) (fun i => ys[i]?) = some b →
    ∀ k, (Op.equalIn (d + k) t (valOf P t xs) (valOf P t ys)).run P w = .ok b w
  | 0, _, _, hp, _, _, _, _, _ => by cases hp
  | d + 1, t, p, hp, xs, ys, b, hb, k => by
    have ih := eqPlan_sound (P := P) w d
    -- a part beside a part
    have one : ∀ (e : TypeId) (q : List (Nat × Lk)) (o : Nat) (c : Bool), eqPlan P d e = some q → q.all (fun x => decide (x.1 < sizeT P e)) = true → E5 (q.map fun x => (o + x.1, x.2)) (fun i => xs[i]?) (fun i => ys[i]?) = some c →
        (part e xs o).run P w = .ok (valOf P e (xs.extract o (o + sizeT P e))) w ∧ (part e ys o).run P w = .ok (valOf P e (ys.extract o (o + sizeT P e))) w ∧
        (Op.equalIn (d + k) e (valOf P e (xs.extract o (o + sizeT P e))) (valOf P e (ys.extract o (o + sizeT P e)))).run P w = .ok c w := by
      intro e q o c hq hs hc
      rw [eqVals_shift] at hc
      obtain ⟨s1, s2⟩ := eqVals_some hc
      refine ⟨part_run hq hs w xs o s1, part_run hq hs w ys o s2, ih e q hq _ _ c ?_ k⟩
      rw [← hc]
      exact eqVals_congr q (sizeT P e) hs (fun i hi => getElem?_extract' xs o _ i hi) (fun i hi => getElem?_extract' ys o _ i hi)
    rw [show d + 1 + k = (d + k) + 1 by omega]
    unfold eqPlan at hp
    split at hp
    · rename_i k0 hu
      cases hp
      simp only [E5] at hb
      split at hb
      · rename_i x y h1 h2
        simp only [valOf, hu, Array.getD_eq_getD_getElem?, h1, h2, Option.getD_some]
        split at hb
        · rename_i a c h3 h4
          cases h4; cases hb
          unfold leafV at h3
          split at h3
          · rename_i heq
            split at h3
            · rename_i ke; subst ke; cases h3
              rw [run_equalIn_int w (d + k) t _ _ _ _ hu, Bool.and_true]
            · cases h3
          · rename_i heq; cases heq
          · rename_i heq; cases heq
          · cases h3
        · cases hb
      · cases hb
    · rename_i hu
      cases hp
      simp only [E5] at hb
      split at hb
      · rename_i x y h1 h2
        simp only [valOf, hu, Array.getD_eq_getD_getElem?, h1, h2, Option.getD_some]
        split at hb
        · rename_i a c h3 h4
          cases h4; cases hb
          unfold leafV at h3
          split at h3
          · rename_i heq; cases heq
          · cases h3
            rw [run_equalIn_bool' w (d + k) t _ _ hu, Bool.and_true]
          · rename_i heq; cases heq
          · cases h3
        · cases hb
      · cases hb
    · rename_i hu
      cases hp
      simp only [E5] at hb
      split at hb
      · rename_i x y h1 h2
        simp only [valOf, hu, Array.getD_eq_getD_getElem?, h1, h2, Option.getD_some]
        split at hb
        · rename_i a c h3 h4
          cases h4; cases hb
          unfold leafV at h3
          split at h3
          · rename_i heq; cases heq
          · rename_i heq; cases heq
          · cases h3
            rw [run_equalIn_string w (d + k) t _ _ hu, Bool.and_true]
          · cases h3
        · cases hb
      · cases hb
    · rename_i fs hu
      split at hp
      · cases hp
      · rename_i hst
        simp only [valOf, hu]
        have hfo : P.fieldsOf t = fs := by simp [Program.fieldsOf, hu]
        rw [run_equalIn_agg w (d + k) t xs ys (by rw [hfo]; exact hu) (by simpa using hst), hfo]
        generalize fs.toList = l at hp
        clear hu hfo
        induction l generalizing p b with
        | nil => cases hp; cases hb; simp [Op.eqFields]
        | cons f l ihl =>
          simp only [List.foldr_cons] at hp
          split at hp
          · cases hp
          · rename_i q hq
            split at hp
            · rename_i hn
              cases hp
              simp only [Op.eqFields, hn, ne_eq, not_true_eq_false, if_false]
              exact ihl _ _ hb hq
            · rename_i hn
              split at hp
              · cases hp
              · rename_i p1 hp1
                split at hp
                · rename_i hs
                  cases hp
                  obtain ⟨b1, b2, e1, e2, rfl⟩ := eqVals_append _ _ _ _ _ hb
                  obtain ⟨r1, r2, r3⟩ := one f.type p1 f.offset b1 hp1 hs e1
                  simp only [Op.eqFields, ne_eq, hn, not_false_eq_true, if_true, Sem.run_bind, r1, r2, r3, Result.andThen_ok]
                  cases b1
                  · simp
                  · simp only [Bool.not_true, Bool.false_eq_true, if_false, Bool.true_and]
                    exact ihl _ _ e2 hq
                · cases hp
    · rename_i n e hu
      split at hp
      · cases hp
      · rename_i p1 hp1
        split at hp
        · rename_i hs
          cases hp
          simp only [valOf, hu]
          have hz : (sizeOf e).run P w = .ok (sizeT P e) w := by
            refine sizeT_run ?_ w
            cases d with
            | zero => cases hp1
            | succ d =>
              unfold eqPlan at hp1
              split at hp1
              · rename_i h; exact r5 h
              · rename_i h; exact r5 h
              · rename_i h; exact r5 h
              · rename_i h; exact r5 h
              · rename_i h; exact r5 h
              · cases hp1
          simp only [Op.equalIn, Sem.run_bind, run_underlying hu, Result.andThen_ok, hz, Std.Legacy.Range.forIn_eq_forIn_range', Std.Legacy.Range.size, Nat.sub_zero, Nat.add_sub_cancel, Nat.div_one, List.range_eq_range'] at hb ⊢
          clear hu
          generalize (0 : Nat) = s0 at hb ⊢
          induction n generalizing s0 b with
          | zero => cases hb; simp
          | succ n ihn =>
            simp only [List.range'_succ, List.flatMap_cons] at hb
            obtain ⟨b1, b2, e1, e2, rfl⟩ := eqVals_append _ _ _ _ _ hb
            obtain ⟨r1, r2, r3⟩ := one e p1 (s0 * sizeT P e) b1 hp1 hs e1
            simp only [List.range'_succ, List.forIn_cons, Sem.run_bind, r1, r2, r3, Result.andThen_ok]
            cases b1
            · simp
            · simp only [Bool.not_true, Bool.false_eq_true, if_false, Bool.true_and, Sem.run_pure, Result.andThen_ok]
              exact ihn b2 (s0 + 1) e2
        · cases hp
    · cases hp

theorem leafE_vals {k : Lk} {x y : V} {u v : Value} {b : Bool} (hx : RepV w S φ m x u) (hy : RepV w S φ m y v) (h : leafE k x y = some b) : leafV k u v = some b := by
  unfold leafE at h
  split at h
  all_goals first | (cases h; done) | (simp only [RepV, RepD] at hx hy; subst hx; subst hy; simpa [leafV] using h)
theorem eqCells_vals {xs ys : List V} {us vs : List Value} (hx : RepVs w S φ m xs us) (hy : RepVs w S φ m ys vs) : ∀ (p : List (Nat × Lk)) (b : Bool), eqCells p xs ys = some b → E5 p (fun i => us.toArray[i]?) (fun i => vs.toArray[i]?) = some b
  | [], b, h => h
  | (o, k) :: r, b, h => by
    simp only [eqCells] at h
    split at h
    · rename_i a c h1 h2
      have ho : o < xs.length ∧ o < ys.length := by
        refine ⟨?_, ?_⟩
        · rcases Nat.lt_or_ge o xs.length with h | h
          · exact h
          · exfalso; rw [List.getD_eq_getElem?_getD, List.getElem?_eq_none h] at h1; simp [leafE] at h1
        · rcases Nat.lt_or_ge o ys.length with h | h
          · exact h
          · exfalso; rw [List.getD_eq_getElem?_getD (l := ys), List.getElem?_eq_none h] at h1; simp only [Option.getD_none] at h1; generalize xs.getD o .dead = z at h1; cases k <;> cases z <;> first | (cases h1; done) | (rename_i q; cases q <;> first | (cases h1; done) | (rename_i q; cases q <;> cases h1))
      obtain ⟨u, hu, hru⟩ := RepVs.get _ _ hx o ho.1
      obtain ⟨v, hv, hrv⟩ := RepVs.get _ _ hy o ho.2
      have hr := eqCells_vals hx hy r c h2
      simp only [E5, List.getElem?_toArray, hu, hv, leafE_vals hru hrv h1]
      rw [show E5 r (fun i => us[i]?) (fun i => vs[i]?) = some c by simpa only [List.getElem?_toArray] using hr]
      exact h
    · cases h

theorem aggCells_val {P : Program} {t : TypeId} {p : List (Nat × Lk)} (hg : eqPlanT P t = some p) (w : World) (op : BinOp) (ox oy : Operand) {xs ys : List V} {us vs : List Value} (hx : RepVs w S φ m xs us) (hy : RepVs w S φ m ys vs) {b : Bool} (hb : eqCells p xs ys = some b) :
    (eqGuard op t ox oy (.agg us.toArray) (.agg vs.toArray)).run P w = .ok () w ∧ (Op.equalIn 10000 t (.agg us.toArray) (.agg vs.toArray)).run P w = .ok b w := by
  unfold eqPlanT at hg
  split at hg
  case h_2 => cases hg
  rename_i hagg0
  split at hg
  · cases hg
  · rename_i hgd
    have hagg : ∃ dd, P.underlying t = some dd ∧ (match dd with | .struct _ | .array _ _ => True | _ => False) := by
      unfold aggOf at hagg0
      cases hu : P.underlying t with
      | none => simp [hu] at hagg0
      | some dd => refine ⟨dd, rfl, ?_⟩; rw [hu] at hagg0; cases dd <;> simp_all
    refine ⟨run_eqGuard_agg w op t ox oy _ _ (by simpa using hgd), ?_⟩
    have h := eqPlan_sound w 20 t p hg us.toArray vs.toArray b (eqCells_vals hx hy p b hb) 9980
    obtain ⟨dd, hu, hm⟩ := hagg
    have hv : ∀ cs, valOf P t cs = .agg cs := by
      intro cs
      unfold valOf; rw [hu]
      cases dd <;> first | rfl | exact hm.elim
    rw [hv, hv] at h
    exact h

theorem isPtrT_spec {P : Program} {t : TypeId} (h : isPtrT P t = true) : P.underlying t = some (.pointer (P.pointee t)) := by
  unfold isPtrT at h
  split at h
  · rename_i e hu; simp [Program.pointee, hu]
  · cases h
theorem binF_sound {op : BinOp} {t : TypeId} {x y : V} {vx vy : Value} (ox oy : Operand) (hx : RepV w S φ m x vx) (hy : RepV w S φ m y vy) (hc : (binF P op t x y).1) :
    ∃ u, (do eqGuard op t ox oy vx vy; binOp op t vx vy : Sem Value).run P w = .ok u w ∧ RepV w S φ m (binF P op t x y).2 u := by
  unfold binF at hc ⊢
  split at hc
  · rename_i k a k' b
    simp only [RepV, RepD] at hx hy; subst hx; subst hy
    have hg : (eqGuard op t ox oy (.int k a) (.int k' b)).run P w = .ok () w := by
      unfold eqGuard; split <;> simp
    split at hc
    · subst hc; exact ⟨.int k (k.wrap (a + b)), by simp [hg, binOp, Op.intArith], A4⟩
    · subst hc; exact ⟨.int k (k.wrap (a - b)), by simp [hg, binOp, Op.intArith], A4⟩
    · subst hc; exact ⟨.int k (k.wrap (a * b)), by simp [hg, binOp, Op.intArith], A4⟩
    · obtain ⟨rfl, hb⟩ := hc; exact ⟨.int k (k.wrap (a.tdiv b)), by simp [hg, binOp, Op.intDiv, hb], A4⟩
    · obtain ⟨rfl, hb⟩ := hc; exact ⟨.int k (a.tmod b), by simp [hg, binOp, Op.intDiv, hb], A4⟩
    · subst hc; exact ⟨.int k (bitI .and k a b), by simp [hg, binOp, Op.intBits, bitI], A4⟩
    · subst hc; exact ⟨.int k (bitI .or k a b), by simp [hg, binOp, Op.intBits, bitI], A4⟩
    · subst hc; exact ⟨.int k (bitI .xor k a b), by simp [hg, binOp, Op.intBits, bitI], A4⟩
    · subst hc; exact ⟨.int k (bitI .andNot k a b), by simp [hg, binOp, Op.intBits, bitI], A4⟩
    · have h0 : ¬ b < 0 := by simp only at hc; omega
      exact ⟨.int k (k.wrap (a * 2 ^ (min b.toNat k.bits))), by simp [hg, binOp, Op.shift, h0], A4⟩
    · have h0 : ¬ b < 0 := by simp only at hc; omega
      exact ⟨.int k (a.fdiv (2 ^ (min b.toNat k.bits))), by simp [hg, binOp, Op.shift, h0], A4⟩
    · subst hc; exact ⟨.bool (a == b), by simp [hg, binOp, Op.intCmp], q7⟩
    · subst hc; exact ⟨.bool (a != b), by simp [hg, binOp, Op.intCmp], q7⟩
    · subst hc; exact ⟨.bool (a < b), by simp [hg, binOp, Op.intCmp], q7⟩
    · subst hc; exact ⟨.bool (a ≤ b), by simp [hg, binOp, Op.intCmp], q7⟩
    · subst hc; exact ⟨.bool (a > b), by simp [hg, binOp, Op.intCmp], q7⟩
    · subst hc; exact ⟨.bool (a ≥ b), by simp [hg, binOp, Op.intCmp], q7⟩
  · rename_i a b
    simp only [RepV, RepD] at hx hy; subst hx; subst hy
    have hg : (eqGuard op t ox oy (.bool a) (.bool b)).run P w = .ok () w := by
      unfold eqGuard; split <;> simp
    split at hc
    · have hu := isBoolT_spec hc
      exact ⟨.bool (a == b), by simp only [Sem.run_bind, hg, Result.andThen_ok, binOp, run_equal_bool w t a b hu, Sem.run_pure], q7⟩
    · have hu := isBoolT_spec hc
      exact ⟨.bool (a != b), by simp only [Sem.run_bind, hg, Result.andThen_ok, binOp, run_equal_bool w t a b hu, Sem.run_pure]; rfl, q7⟩
    · exact hc.elim
  · rename_i a b
    simp only [RepV, RepD] at hx hy; subst hx; subst hy
    have hg : (eqGuard op t ox oy (.string a) (.string b)).run P w = .ok () w := by
      unfold eqGuard; split <;> simp
    split at hc
    · refine ⟨.string (a ++ b), ?_, by simp [RepV, RepD]⟩
      have : ¬ (((a.size + b.size : Nat) : Int) > IntKind.i64.max) := by simp [IntKind.max, IntKind.signed, IntKind.bits]; simp only at hc; omega
      simp only [Sem.run_bind, hg, Result.andThen_ok, binOp, Op.stringOp, this, if_false]
      rfl
    · exact ⟨.bool (a.toList == b.toList), by simp [hg, binOp, Op.stringOp], q7⟩
    · exact ⟨.bool (!(a.toList == b.toList)), by simp [hg, binOp, Op.stringOp], q7⟩
    · exact hc.elim
  · rename_i i off
    simp only [RepV, RepD] at hx hy; subst hy
    obtain ⟨_, g, _, rfl⟩ := hx
    obtain ⟨hp, hc⟩ := hc
    have hg : (eqGuard op t ox oy (.pointer (some ⟨g, off, none⟩)) (.pointer none)).run P w = .ok () w := by
      unfold eqGuard; split <;> simp
    have hu := isPtrT_spec hp
    unfold ptrB at hc ⊢
    split at hc
    · exact ⟨.bool false, by simp [hg, run_eql_pointer_nil w t _ hu], q7⟩
    · exact ⟨.bool true, by simp [hg, run_neq_pointer_nil w t _ hu], q7⟩
    · exact hc.elim
  · simp only [RepV, RepD] at hx hy; subst hx; subst hy
    obtain ⟨hp, hc⟩ := hc
    have hg : (eqGuard op t ox oy (.pointer none) (.pointer none)).run P w = .ok () w := by
      unfold eqGuard; split <;> simp
    have hu := isPtrT_spec hp
    unfold ptrB at hc ⊢
    split at hc
    · exact ⟨.bool true, by simp [hg, run_eql_pointer_nil w t _ hu], q7⟩
    · exact ⟨.bool false, by simp [hg, run_neq_pointer_nil w t _ hu], q7⟩
    · exact hc.elim
  · split at hc
    · rename_i xs ys p h1 h2 h3
      split at hc
      · rename_i b hb
        obtain ⟨us, rfl, hus⟩ := aggV_spec hx h1
        obtain ⟨vs, rfl, hvs⟩ := aggV_spec hy h2
        obtain ⟨e1, e2⟩ := aggCells_val h3 w op ox oy hus hvs hb
        unfold ptrB at hc ⊢
        split at hc
        · exact ⟨.bool b, by simp [e1, e2, run_eql_struct], q7⟩
        · exact ⟨.bool (!b), by simp [e1, e2, run_neq_struct], q7⟩
        · exact hc.elim
      · exact hc.elim
    · exact hc.elim
end
end Go.PW
