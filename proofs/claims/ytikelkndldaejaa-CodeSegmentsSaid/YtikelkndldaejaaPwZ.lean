/-
  More evaluation: unsigned numbers. For every program.
-/
import Derived.Test.YtikelkndldaejaaPwRA
import Derived.Test.YtikelkndldaejaaPwX
import Derived.Test.YtikelkndldaejaaPlD
set_option linter.all false
namespace Go.PW
theorem bit_andU (a b : Int) : bitI .and .u64 a b = andU a b := by unfold bitI andU; rw [wrap_wu64]; rfl
theorem bit_orU (a b : Int) : bitI .or .u64 a b = orU a b := by unfold bitI orU; rw [wrap_wu64]; rfl
theorem bit_xorU (a b : Int) : bitI .xor .u64 a b = xorU a b := by unfold bitI xorU; rw [wrap_wu64]; rfl
theorem repD_I (n : Nat) (z : Int) : List.replicate n (D.val (Value.int .i64 z)) = (List.replicate n z).map I := by simp
theorem listRep (n : Nat) (z : Int) : D.list n ((List.replicate n z).map I) = L (List.replicate n z) := by simp
theorem segApp (a b : List Int) : D.list (a.length + b.length) (seg (a.map I ++ b.map I) 0 (a.length + b.length)) = L (a ++ b) := by
  unfold seg
  rw [List.drop_zero, List.take_of_length_le (by simp), ← List.map_append, ← List.length_append]
theorem segRep (n : Nat) (z : Int) (b : List Int) : D.list (n + b.length) (seg ((List.replicate n z).map I ++ b.map I) 0 (n + b.length)) = L (List.replicate n z ++ b) := by
  have := segApp (List.replicate n z) b
  rwa [List.length_replicate] at this
attribute [go_sem] segApp segRep listRep bit_andU bit_orU bit_xorU Int.natCast_zero repD_I
/-! ### A block of which less is known -/
def Env.shrink (env : Env) (i m : Nat) : Env :=
  match env.objs[i]? with
  | some ob => { env with objs := env.objs.set i { ob with cells := ob.cells.take m } }
  | none => env
theorem RepVs.takeN {w : World} {S : Nat → Prop} {φ : Nat → Option Nat} {k : Nat} : ∀ (m : Nat) {ds : List V} {vs : List Value}, RepVs w S φ k ds vs → RepVs w S φ k (ds.take m) (vs.take m)
  | 0, _, _, _ => by simp [RepVs]
  | m + 1, [], _, h => by simp only [RepVs] at h; subst h; simp [RepVs]
  | m + 1, d :: ds, _, h => by
    simp only [RepVs] at h
    obtain ⟨v, vs', rfl, hr, ht⟩ := h
    simp only [List.take_succ_cons, RepVs]
    exact ⟨v, _, rfl, hr, RepVs.takeN m ht⟩
theorem Rel.shrink {B : Nat} {w0 : World} {S0 : Nat → Prop} {φ : Nat → Option Nat} {env : Env} {a : Act} {w : World} (h : Rel B w0 S0 φ env a w) (i m : Nat) : Rel B w0 S0 φ (env.shrink i m) a w := by
  unfold Env.shrink
  split
  · rename_i ob hi
    have hlen : (env.objs.set i { ob with cells := ob.cells.take m }).length = env.objs.length := by simp
    refine ⟨h.below, h.base, h.nodef, h.size, fun t => by rw [hlen]; exact h.tmps t, fun j ob' hj => ?_, by rw [hlen]; exact h.low, by rw [hlen]; exact h.inj, by rw [hlen]; exact h.ghost⟩
    rw [hlen]
    have hil : i < env.objs.length := (List.getElem?_eq_some_iff.1 hi).1
    by_cases e : i = j
    · subst e
      rw [List.getElem?_set_self hil] at hj
      cases hj
      rcases h.objs i ob hi with ⟨h1, h2⟩ | ⟨g, cur, vals, rest, h1, h2, h3, h4⟩
      · exact .inl ⟨h1, by simp [h2]⟩
      · exact .inr ⟨g, cur, vals.take m, vals.drop m ++ rest, h1, h2, by rw [h3, ← List.append_assoc, List.take_append_drop], RepVs.takeN m h4⟩
    · rw [List.getElem?_set_ne e] at hj
      exact h.objs j ob' hj
  · exact h
theorem PW.shrink {ro : Option Nat} {P : Program} {c : Code} {Q : Exit → Env → Prop} {env : Env} (i m : Nat) (h : PW ro P c Q (env.shrink i m)) : PW ro P c Q env :=
  fun B w0 S0 φ a w hr => h B w0 S0 φ a w (hr.shrink i m)
/-! ### A scope through which the run goes without a jump -/
theorem stepR_scope' {P : Program} {b : Frame} {a : Act} {k : List Item} {cs : List Frame} {w : World} {c : Code} : step P (lone (b.atR a (.code (.scope c) :: k)) cs w) = .next (lone (b.atR a (.code c :: .inScope c :: k)) cs w) :=
  step_lone_go (by simp [stepG, stepG.exec, Frame.atR])
theorem stepR_inScope' {P : Program} {b : Frame} {a : Act} {k : List Item} {cs : List Frame} {w : World} {c : Code} : step P (lone (b.atR a (.inScope c :: k)) cs w) = .next (lone (b.atR a k) cs w) :=
  step_lone_go (by simp [stepG, stepG.exec, Frame.atR])
theorem wpIn_scope {F : Fence} {n : Nat} {P : Program} {Q : Exit → Act → World → Prop} {a : Act} {w : World} {c : Code} (hng : ∀ l a w, ¬ Q (.goto l) a w) (h : c.wpIn F n P Q a w) : (Code.scope c).wpIn F n P Q a w := by
  intro b k cs hro hb hr
  have h0 : (lone (b.atR a (.code (.scope c) :: k)) cs w).fenced P F := fenced_calm hb hr rfl
  obtain ⟨e, a₁, w₁, hq, harr⟩ := h b (.inScope c :: k) cs hro hb hr
  cases e with
  | normal => exact ⟨.normal, a₁, w₁, hq, .head h0 stepR_scope' (StepsIn.trans harr (.one (fenced_calm hb hr rfl) stepR_inScope'))⟩
  | exit id =>
    have hx : exitTo id (.inScope c :: k) = exitTo id k := by simp [exitTo]
    exact ⟨.exit id, a₁, w₁, hq, fun k' hk => .head h0 stepR_scope' (harr.1 k' (by rw [hx]; exact hk)),
      fun hr' hk => let ⟨k₁, h1, h2⟩ := harr.2 hr' (by rw [hx]; exact hk); ⟨k₁, h1, .head h0 stepR_scope' h2⟩⟩
  | goto l => exact absurd hq (hng l a₁ w₁)
  | ret => exact ⟨.ret, a₁, w₁, hq, .of_steps (.one h0 stepR_scope') harr⟩
  | panic ch => exact ⟨.panic ch, a₁, w₁, hq, .of_steps (.one h0 stepR_scope') harr⟩
  | outgrown => exact ⟨.outgrown, a₁, w₁, hq, .of_steps (.one h0 stepR_scope') harr⟩
theorem PW.scopeEnds {ro : Option Nat} {P : Program} {c : Code} {env : Env} {rs : List ResultVar} {r : V} {obs : Obs} (h : PW ro P c (PW.Ends P rs r obs) env) : PW ro P (.scope c) (PW.Ends P rs r obs) env := fun B w0 S0 φ a w hr =>
  wpIn_scope (fun l a w ⟨_, _, hq, _⟩ => by unfold PW.Ends at hq; rcases hq.1 with h | h <;> cases h) (h B w0 S0 φ a w hr)
end Go.PW
