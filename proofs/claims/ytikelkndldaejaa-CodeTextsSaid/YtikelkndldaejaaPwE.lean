/-
  That the machine does what 'opF' says: the other operations that leave memory alone. For every program.
-/
import Derived.Test.YtikelkndldaejaaPwD
import Derived.Laws.Small
set_option linter.all false
namespace Go.PW
open Go.RowKit

section
variable {P : Program} {w : World} {S : Nat → Prop} {φ : Nat → Option Nat} {m : Nat}

theorem fieldF_sound {t f : Nat} {x : V} {v : Value} (hx : RepV w S φ m x v) (hc : (fieldF P t x f).1) :
    ∃ u, (Instr.field t v f).run P w = .ok u w ∧ RepV w S φ m (fieldF P t x f).2 u := by
  unfold fieldF at hc ⊢
  split at hc
  · rename_i off ft cells hf
    obtain ⟨fs, fd, hu, hfd, ho, hft⟩ := fldOff_spec hf
    subst hft; subst ho
    simp only [RepV] at hx
    obtain ⟨vs, rfl, hr⟩ := hx
    have hl := RepVs.length _ _ hr
    split at hc
    · rename_i s b z ht ha
      refine ⟨.agg ((vs.drop fd.offset).take s).toArray, ?_, ?_⟩
      · simp [Instr.field, run_underlying hu, hfd, asAgg, part, run_isAgg ha, run_sizeOf ht]
      · simp only [RepV]; exact ⟨_, rfl, hr.sub _ _ hc⟩
    · rename_i x' ht ha
      obtain ⟨u, hu', hru⟩ := hr.one fd.offset hc
      refine ⟨u, ?_, hru⟩
      simp [Instr.field, run_underlying hu, hfd, asAgg, part, run_isAgg ha, hu']
    · exact hc.elim
  · exact hc.elim

theorem extractF_sound {k : Nat} {x : V} {v : Value} (hx : RepV w S φ m x v) (hc : (extractF x k).1) :
    ∃ u, (Instr.extract v k).run P w = .ok u w ∧ RepV w S φ m (extractF x k).2 u := by
  unfold extractF at hc ⊢
  split at hc
  · rename_i vs
    simp only [RepV] at hx
    obtain ⟨us, rfl, hr⟩ := hx
    obtain ⟨u, hu, hru⟩ := hr.one k hc
    exact ⟨u, by simp [Instr.extract, hu], hru⟩
  · rename_i ds
    simp only [RepV, RepD] at hx
    obtain ⟨us, rfl, hr⟩ := hx
    have h1 := RepAll.get ds us hr k hc
    have hl := RepAll.length _ _ hr
    have hk : k < us.length := by simp only at hc; omega
    refine ⟨us[k], by simp [Instr.extract, hk], ?_⟩
    rw [List.getD_eq_getElem?_getD, List.getD_eq_getElem?_getD] at h1
    simp only [RepV]
    simpa [hk, List.getD_eq_getElem?_getD] using h1
  · exact hc.elim

theorem lenF_sound {t ty : TypeId} {x : V} {v : Value} (hx : RepV w S φ m x v) (hc : (lenF P t x).1) :
    ∃ u, (Builtin.len_ #[t] ty #[v]).run P w = .ok u w ∧ RepV w S φ m (lenF P t x).2 u := by
  unfold lenF at hc ⊢
  split at hc
  · rename_i e i off n sz he
    have hu := selOf_spec he
    simp only [RepV] at hx
    obtain ⟨_, ⟨a, rfl, rfl, _⟩ | ⟨g, cap, cur, el, hg, rfl, _⟩⟩ := hx
    · exact ⟨.int .i64 0, by simp [Builtin.len_, run_underlying hu, goInt], by simp [vint, RepV, RepD]⟩
    · exact ⟨.int .i64 n, by simp [Builtin.len_, run_underlying hu, goInt], by simp [vint, RepV, RepD]⟩
  · rename_i e n cells he
    have hu := selOf_spec he
    simp only [RepV, RepD] at hx
    obtain ⟨a, cap, rfl, _⟩ := hx
    exact ⟨.int .i64 n, by simp [Builtin.len_, run_underlying hu, goInt], by simp [vint, RepV, RepD]⟩
  · rename_i e a n cap he
    have hu := selOf_spec he
    simp only [RepV, RepD] at hx
    subst hx
    exact ⟨.int .i64 n, by simp [Builtin.len_, run_underlying hu, goInt], by simp [vint, RepV, RepD]⟩
  · rename_i s he
    have hu := isStrT_spec hc
    simp only [RepV, RepD] at hx
    subst hx
    exact ⟨.int .i64 s.size, by simp [Builtin.len_, run_underlying hu, goInt], by simp [vint, RepV, RepD]⟩
  · exact hc.elim

theorem repV_int {k : IntKind} {n : Int} : RepV w S φ m (vint k n) (.int k n) := by simp [vint, RepV, RepD]
theorem repV_bool {b : Bool} : RepV w S φ m (vbool b) (.bool b) := by simp [vbool, RepV, RepD]

theorem unF_sound {op : UnOp} {x : V} {v : Value} (hx : RepV w S φ m x v) (hc : (unF op x).1) : ∃ u, (Op.unary op v).run P w = .ok u w ∧ RepV w S φ m (unF op x).2 u := by
  unfold unF at hc ⊢
  split at hc
  · rename_i k n
    simp only [RepV, RepD] at hx; subst hx
    exact ⟨.int k (k.wrap (0 - n)), by simp [Op.unary, Op.intArith], repV_int⟩
  · rename_i b
    simp only [RepV, RepD] at hx; subst hx
    exact ⟨.bool (!b), by simp [Op.unary], repV_bool⟩
  · exact hc.elim

theorem convF_sound {s t : TypeId} {x : V} {v : Value} (hx : RepV w S φ m x v) (hc : (convF P s t x).1) : ∃ u, (convert s t v).run P w = .ok u w ∧ RepV w S φ m (convF P s t x).2 u := by
  unfold convF at hc ⊢
  split at hc
  · rename_i k n
    simp only [RepV, RepD] at hx; subst hx
    split at hc
    · rename_i k1 k2 h1 h2
      exact ⟨.int k2 (k2.wrap n), by simp [convert, run_underlying (kindOf_spec h1), run_underlying (kindOf_spec h2), Conv.intToInt], repV_int⟩
    · exact hc.elim
  · exact hc.elim

theorem pickF_sound {c a b : V} {vc va vb : Value} (hc : RepV w S φ m c vc) (ha : RepV w S φ m a va) (hb : RepV w S φ m b vb) (h : (pickF c a b).1) :
    ∃ x, vc = .bool x ∧ RepV w S φ m (pickF c a b).2 (if x then va else vb) := by
  unfold pickF at h ⊢
  split at h
  · rename_i x
    simp only [RepV, RepD] at hc; subst hc
    refine ⟨x, rfl, ?_⟩
    unfold pickB at h ⊢
    have hta : x = true → RepV w S φ m (strip x a) va := fun e => by subst e; exact strip_rep (g := true) rfl ha
    have htb : x = false → RepV w S φ m (strip (!x) b) vb := fun e => by subst e; exact strip_rep (g := !false) rfl hb
    split at h
    · rename_i p q hp hq
      rw [hp] at hta; rw [hq] at htb
      cases x with
      | true =>
        have := hta rfl
        simp only [RepV, RepD] at this
        subst this
        simp [vbool, RepV, RepD]
      | false =>
        have := htb rfl
        simp only [RepV, RepD] at this
        subst this
        simp [vbool, RepV, RepD]
    · rename_i p hp hq
      rw [hp] at hta
      subst h
      have := hta rfl
      simp only [RepV, RepD] at this
      subst this
      simp [vbool, RepV, RepD]
    · rename_i q hp hq
      rw [hq] at htb
      subst h
      have := htb rfl
      simp only [RepV, RepD] at this
      subst this
      simp [vbool, RepV, RepD]
    · exact h.elim
  · exact h.elim

theorem nilF_sound {x : V} {v : Value} (hx : RepV w S φ m x v) (hc : (nilF x).1) : ∃ a, v = .pointer (some a) ∧ (nilF x).2 = x := by
  unfold nilF at hc ⊢
  split at hc
  · simp only [RepV] at hx; obtain ⟨_, g, _, rfl⟩ := hx; exact ⟨_, rfl, rfl⟩
  · simp only [RepV, RepD] at hx; obtain ⟨b, o, rfl, _⟩ := hx; exact ⟨_, rfl, rfl⟩
  · exact hc.elim

theorem binF_sound {op : BinOp} {t : TypeId} {x y : V} {vx vy : Value} (ox oy : Operand) (hx : RepV w S φ m x vx) (hy : RepV w S φ m y vy) (hc : (binF P op t x y).1) :
    ∃ u, (do eqGuard op t ox oy vx vy; binOp op t vx vy : Sem Value).run P w = .ok u w ∧ RepV w S φ m (binF P op t x y).2 u := by
  unfold binF at hc ⊢
  split at hc
  · rename_i k a k' b
    simp only [RepV, RepD] at hx hy; subst hx; subst hy
    have hg : (eqGuard op t ox oy (.int k a) (.int k' b)).run P w = .ok () w := by
      unfold eqGuard; split <;> simp
    split at hc
    · subst hc; exact ⟨.int k (k.wrap (a + b)), by simp [hg, binOp, Op.intArith], repV_int⟩
    · subst hc; exact ⟨.int k (k.wrap (a - b)), by simp [hg, binOp, Op.intArith], repV_int⟩
    · subst hc; exact ⟨.int k (k.wrap (a * b)), by simp [hg, binOp, Op.intArith], repV_int⟩
    · obtain ⟨rfl, hb⟩ := hc; exact ⟨.int k (k.wrap (a.tdiv b)), by simp [hg, binOp, Op.intDiv, hb], repV_int⟩
    · obtain ⟨rfl, hb⟩ := hc; exact ⟨.int k (a.tmod b), by simp [hg, binOp, Op.intDiv, hb], repV_int⟩
    · subst hc; exact ⟨.int k (bitI .and k a b), by simp [hg, binOp, Op.intBits, bitI], repV_int⟩
    · subst hc; exact ⟨.int k (bitI .or k a b), by simp [hg, binOp, Op.intBits, bitI], repV_int⟩
    · subst hc; exact ⟨.int k (bitI .xor k a b), by simp [hg, binOp, Op.intBits, bitI], repV_int⟩
    · subst hc; exact ⟨.int k (bitI .andNot k a b), by simp [hg, binOp, Op.intBits, bitI], repV_int⟩
    · have h0 : ¬ b < 0 := by simp only at hc; omega
      exact ⟨.int k (k.wrap (a * 2 ^ (min b.toNat k.bits))), by simp [hg, binOp, Op.shift, h0], repV_int⟩
    · have h0 : ¬ b < 0 := by simp only at hc; omega
      exact ⟨.int k (a.fdiv (2 ^ (min b.toNat k.bits))), by simp [hg, binOp, Op.shift, h0], repV_int⟩
    · subst hc; exact ⟨.bool (a == b), by simp [hg, binOp, Op.intCmp], repV_bool⟩
    · subst hc; exact ⟨.bool (a != b), by simp [hg, binOp, Op.intCmp], repV_bool⟩
    · subst hc; exact ⟨.bool (a < b), by simp [hg, binOp, Op.intCmp], repV_bool⟩
    · subst hc; exact ⟨.bool (a ≤ b), by simp [hg, binOp, Op.intCmp], repV_bool⟩
    · subst hc; exact ⟨.bool (a > b), by simp [hg, binOp, Op.intCmp], repV_bool⟩
    · subst hc; exact ⟨.bool (a ≥ b), by simp [hg, binOp, Op.intCmp], repV_bool⟩
  · rename_i a b
    simp only [RepV, RepD] at hx hy; subst hx; subst hy
    have hg : (eqGuard op t ox oy (.bool a) (.bool b)).run P w = .ok () w := by
      unfold eqGuard; split <;> simp
    split at hc
    · have hu := isBoolT_spec hc
      exact ⟨.bool (a == b), by simp only [Sem.run_bind, hg, Result.andThen_ok, binOp, run_equal_bool w t a b hu, Sem.run_pure], repV_bool⟩
    · have hu := isBoolT_spec hc
      exact ⟨.bool (a != b), by simp only [Sem.run_bind, hg, Result.andThen_ok, binOp, run_equal_bool w t a b hu, Sem.run_pure]; rfl, repV_bool⟩
    · exact hc.elim
  · rename_i a b
    simp only [RepV, RepD] at hx hy; subst hx; subst hy
    have hg : (eqGuard op t ox oy (.string a) (.string b)).run P w = .ok () w := by
      unfold eqGuard; split <;> simp
    split at hc
    · refine ⟨.string (a ++ b), ?_, by simp [RepV, RepD]⟩
      have : ¬ (((a.size + b.size : Nat) : Int) > IntKind.i64.max) := by simp [IntKind.max, IntKind.signed, IntKind.bits]; simp only at hc; omega
      simp only [Sem.run_bind, hg, Result.andThen_ok, binOp, Op.stringOp, this, if_false]
      rfl
    · exact ⟨.bool (a.toList == b.toList), by simp [hg, binOp, Op.stringOp], repV_bool⟩
    · exact ⟨.bool (!(a.toList == b.toList)), by simp [hg, binOp, Op.stringOp], repV_bool⟩
    · exact hc.elim
  · exact hc.elim
end
end Go.PW
