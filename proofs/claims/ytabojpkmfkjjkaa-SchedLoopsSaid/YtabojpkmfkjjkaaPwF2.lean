/-
 Loops whose heads know more and more blocks; blocks that take the place of others. For every program.
-/
import Derived.Test.YtabojpkmfkjjkaaPwF1
set_option linter.all false
namespace Go.PW
open Go.RowKit
section
variable {ro : Option Nat} {P : Program} {Q : Exit → Env → Prop} {c : Code} {env : Env} {σ R τ : Type}
theorem PW.loopM (S : List Nat) (m : σ → Nat) (u : σ → List (Nat × V)) (o : σ → List Ob) (b : (σ → Option R) → σ → Option R) (r : R) (n₀ : Nat) (s₀ : σ) (hgm : ∀ s, env.gs.1 ≤ m s) (hrun : rds b n₀ s₀ = some r)
  (h₀ : env.fit S (m s₀) = ⟨env.nt, t4 (env.fit S (m s₀)).tmps (u s₀), o s₀, env.gs, env.th⟩)
  (round : ∀ n s, b (rds b n) s = some r → ∀ N : Env → Prop, (∀ (js : List Nat) s' env', rds b n s' = some r → env'.frzOK js → (env'.frzL js).fit S (m s') = ⟨env.nt, t4 (env.fit S (m s₀)).tmps (u s'), o s', env.gs, env.th⟩ → N env') →
   PW ro P c (andThen N Q) ⟨env.nt, t4 (env.fit S (m s₀)).tmps (u s), o s, env.gs, env.th⟩) : PW ro P (.loop c) Q env := by
 refine PW.fit S (m s₀) (hgm s₀) ?_
 rw [h₀]
 refine PW.loopOf (σ := Nat × σ) (fun s => ⟨env.nt, t4 (env.fit S (m s₀)).tmps (u s.2), o s.2, env.gs, env.th⟩) (fun s => rds b s.1 s.2 = some r) (fun s => s.1) (n₀, s₀) rfl hrun fun ns hs => ?_
 obtain ⟨n, s⟩ := ns
 cases n with
 | zero => cases hs
 | succ n =>
  intro B w0 S0 φ a w hr
  refine wpIn_mono (round n s hs (fun env' => ∃ js s', rds b n s' = some r ∧ env'.frzOK js ∧ (env'.frzL js).fit S (m s') = ⟨env.nt, t4 (env.fit S (m s₀)).tmps (u s'), o s', env.gs, env.th⟩) (fun js s' env' h1 h2 h3 => ⟨js, s', h1, h2, h3⟩) B w0 S0 φ a w hr) ?_
  rintro e a' w' ⟨env', φ', hq, hr'⟩
  cases e with
  | normal =>
   obtain ⟨js, s', h1, h2, h3⟩ := hq
   obtain ⟨φ2, hr2⟩ := hr'.frzL js h2
   have hg : (env'.frzL js).gs.1 ≤ m s' := by
    have := congrArg (fun e => e.gs.1) h3
    simp only [Env.fit] at this
    rw [this]; exact hgm s'
   exact ⟨_, φ2, ⟨(n, s'), rfl, h1, Nat.lt_succ_self n⟩, h3 ▸ hr2.fit S (m s') hg⟩
  | _ => exact ⟨env', φ', hq, hr'⟩
theorem PW.joinM {x y : Code} (S : List Nat) (m : τ → Nat) (T : List (Nat × V)) (u : τ → List (Nat × V)) (o : τ → List Ob) (rest : τ → Option R) (k : (τ → Option R) → Option R) (r : R) (hgm : ∀ t, env.gs.1 ≤ m t) (hrun : jn rest k = some r)
  (hx : ∀ j : τ → Option R, k j = some r → ∀ N : Env → Prop, (∀ (js : List Nat) t env', j t = some r → env'.frzOK js → (env'.frzL js).fit S (m t) = ⟨env.nt, t4 T (u t), o t, env.gs, env.th⟩ → N env') → PW ro P x (andThen N Q) env)
  (hy : ∀ t, rest t = some r → PW ro P y Q ⟨env.nt, t4 T (u t), o t, env.gs, env.th⟩) : PW ro P (.seq x y) Q env := by
 refine a5 ?_
 intro B w0 S0 φ a w hr
 refine wpIn_mono (hx rest hrun (fun env' => ∃ js t, rest t = some r ∧ env'.frzOK js ∧ (env'.frzL js).fit S (m t) = ⟨env.nt, t4 T (u t), o t, env.gs, env.th⟩) (fun js t env' h1 h2 h3 => ⟨js, t, h1, h2, h3⟩) B w0 S0 φ a w hr) ?_
 rintro e a' w' ⟨env', φ', hq, hr'⟩
 cases e with
 | normal =>
  obtain ⟨js, t, h1, h2, h3⟩ := hq
  obtain ⟨φ2, hr2⟩ := hr'.frzL js h2
  have hg : (env'.frzL js).gs.1 ≤ m t := by
   have := congrArg (fun e => e.gs.1) h3
   simp only [Env.fit] at this
   rw [this]; exact hgm t
  exact ⟨_, φ2, hy t h1, h3 ▸ hr2.fit S (m t) hg⟩
 | _ => exact ⟨env', φ', hq, hr'⟩
end
end Go.PW
