/-
 More evaluation: unsigned numbers. For every program.
-/
import Derived.Test.YtklejiafioalnaaPwRA
import Derived.Test.YtklejiafioalnaaPwX
import Derived.Test.YtklejiafioalnaaPlD
set_option linter.all false
namespace Go.PW
theorem bit_andU (a b : Int) : bitI .and .u64 a b = andU a b := by unfold bitI andU; rw [wrap_wu64]; rfl
theorem bit_orU (a b : Int) : bitI .or .u64 a b = orU a b := by unfold bitI orU; rw [wrap_wu64]; rfl
theorem bit_xorU (a b : Int) : bitI .xor .u64 a b = xorU a b := by unfold bitI xorU; rw [wrap_wu64]; rfl
theorem repD_I (n : Nat) (z : Int) : List.replicate n (D.val (Value.int .i64 z)) = (List.replicate n z).map I := by simp
theorem listRep (n : Nat) (z : Int) : D.list n ((List.replicate n z).map I) = L (List.replicate n z) := by simp
theorem segApp (a b : List Int) : D.list (a.length + b.length) (seg (a.map I ++ b.map I) 0 (a.length + b.length)) = L (a ++ b) := by
 unfold seg
 rw [List.drop_zero, List.take_of_length_le (by simp), ← List.map_append, ← List.length_append]
theorem segRep (n : Nat) (z : Int) (b : List Int) : D.list (n + b.length) (seg ((List.replicate n z).map I ++ b.map I) 0 (n + b.length)) = L (List.replicate n z ++ b) := by
 have := segApp (List.replicate n z) b
 rwa [List.length_replicate] at this
attribute [go_sem] segApp segRep listRep bit_andU bit_orU bit_xorU Int.natCast_zero repD_I
theorem stepR_scope' {P : Program} {b : Frame} {a : Act} {k : List Item} {cs : List Frame} {w : World} {c : Code} : step P (lone (b.atR a (.code (.scope c) :: k)) cs w) = .next (lone (b.atR a (.code c :: .inScope c :: k)) cs w) :=
 step_lone_go (by simp [stepG, stepG.exec, Frame.atR])
theorem stepR_inScope' {P : Program} {b : Frame} {a : Act} {k : List Item} {cs : List Frame} {w : World} {c : Code} : step P (lone (b.atR a (.inScope c :: k)) cs w) = .next (lone (b.atR a k) cs w) :=
 step_lone_go (by simp [stepG, stepG.exec, Frame.atR])
theorem wpIn_scope {F : Fence} {n : Nat} {P : Program} {Q : Exit → Act → World → Prop} {a : Act} {w : World} {c : Code} (hng : ∀ l a w, ¬ Q (.goto l) a w) (h : c.wpIn F n P Q a w) : (Code.scope c).wpIn F n P Q a w := by
 intro b k cs hro hb hr
 have h0 : (lone (b.atR a (.code (.scope c) :: k)) cs w).fenced P F := fenced_calm hb hr rfl
 obtain ⟨e, a₁, w₁, hq, harr⟩ := h b (.inScope c :: k) cs hro hb hr
 cases e with
 | normal => exact ⟨.normal, a₁, w₁, hq, .head h0 stepR_scope' (StepsIn.trans harr (.one (fenced_calm hb hr rfl) stepR_inScope'))⟩
 | exit id =>
  have hx : exitTo id (.inScope c :: k) = exitTo id k := by simp [exitTo]
  exact ⟨.exit id, a₁, w₁, hq, fun k' hk => .head h0 stepR_scope' (harr.1 k' (by rw [hx]; exact hk)),
   fun hr' hk => let ⟨k₁, h1, h2⟩ := harr.2 hr' (by rw [hx]; exact hk); ⟨k₁, h1, .head h0 stepR_scope' h2⟩⟩
 | goto l => exact absurd hq (hng l a₁ w₁)
 | ret => exact ⟨.ret, a₁, w₁, hq, .of_steps (.one h0 stepR_scope') harr⟩
 | panic ch => exact ⟨.panic ch, a₁, w₁, hq, .of_steps (.one h0 stepR_scope') harr⟩
 | outgrown => exact ⟨.outgrown, a₁, w₁, hq, .of_steps (.one h0 stepR_scope') harr⟩
end Go.PW
