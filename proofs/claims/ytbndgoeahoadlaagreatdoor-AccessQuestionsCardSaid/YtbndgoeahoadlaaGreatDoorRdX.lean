/-
  What a listed package variable's datum says of its cells. For every program.
-/
import Derived.Test.YtbndgoeahoadlaaGreatDoorPwY
import Derived.LaidMore
import Derived.MakeChecks
set_option linter.all false
namespace Go.PW
open Go.RowKit Go.ChangeShapes Go.WideShapes

/-- The cells that a datum of a type is read from. -/
def Ex {H : Type} (enc : TypeId × Value → H) (P : Program) (w : World) (t : TypeId) (f : DataW H → List Value) : Prop :=
  ∀ fuel cs d p, DataW.trod enc P w 0 (fun _ => true) false fuel t cs = some (d, p) → cs = f d
def exB {H : Type} : DataW H → List Value
  | .lit (.bool b) => [.bool b]
  | _ => []
def exI {H : Type} : DataW H → List Value
  | .lit (.int k n) => [.int k n]
  | _ => []
def exA {H : Type} (f : DataW H → List Value) : DataW H → List Value
  | .agg l => l.flatMap f
  | _ => []

section
variable {H : Type} {enc : TypeId × Value → H} {P : Program} {w : World}
theorem Ex.bool {t : TypeId} (ht : P.underlying t = some .bool) : Ex enc P w t exB := fun fuel cs d p h => by
  obtain ⟨b, rfl, e⟩ := DataW.trod_bool ht h
  obtain ⟨rfl, _⟩ := Prod.mk.inj e
  rfl
theorem Ex.int {t : TypeId} {k : IntKind} (ht : P.underlying t = some (.int k)) : Ex enc P w t exI := fun fuel cs d p h => by
  obtain ⟨n, rfl, e, _⟩ := DataW.trod_int ht h
  obtain ⟨rfl, _⟩ := Prod.mk.inj e
  rfl
theorem cutX {α β : Type} (g : β → List α) (c : Nat) : ∀ (xs : List β) (cs : List α), cs.length = xs.length * c → (∀ i y, xs[i]? = some y → (cs.drop (i * c)).take c = g y) → cs = xs.flatMap g
  | [], cs, hl, _ => by
    have : cs.length = 0 := by rw [hl]; exact Nat.zero_mul c
    rw [List.eq_nil_of_length_eq_zero this]; rfl
  | x :: xs, cs, hl, h => by
    have h0 := h 0 x rfl
    rw [Nat.zero_mul, List.drop_zero] at h0
    have hr := cutX g c xs (cs.drop c) (by rw [List.length_drop, hl, List.length_cons, Nat.succ_mul]; omega) fun i y hy => by
      have := h (i + 1) y (by simpa using hy)
      rw [List.drop_drop, ← this, Nat.succ_mul, Nat.add_comm]
    rw [List.flatMap_cons, ← h0, ← hr, List.take_append_drop]
theorem Ex.array {t e : TypeId} {n : Nat} {f : DataW H → List Value} (ht : P.underlying t = some (.array n e)) (hc : P.cellsOf t = n * P.cellsOf e) (he : Ex enc P w e f) : Ex enc P w t (exA f) := fun fuel cs d p h => by
  obtain ⟨xs, m, _, hx, hl, hn, hg⟩ := DataW.trod_array ht h
  obtain ⟨rfl, _⟩ := Prod.mk.inj hx
  show cs = (xs.map (·.1)).flatMap f
  rw [List.flatMap_map]
  refine cutX (fun y : DataW H × List MemPlace => f y.1) (P.cellsOf e) xs cs (by rw [hl, hc, hn]) fun i y hy => ?_
  have hi : i < n := by
    have := (List.getElem?_eq_some_iff.1 hy).1
    omega
  have := hg i hi
  rw [hy] at this
  exact he _ _ y.1 y.2 this
theorem Ex.struct {t e : TypeId} {fs : Array Field} {n : Nat} {f : DataW H → List Value} (ht : P.underlying t = some (.struct fs)) (hfs : fs.toList.map (fun x => (x.type, x.offset)) = (List.range n).map fun i => (e, i * P.cellsOf e)) (hc : P.cellsOf t = n * P.cellsOf e) (he : Ex enc P w e f) : Ex enc P w t (exA f) := fun fuel cs d p h => by
  obtain ⟨xs, m, _, hx, hl, hlen, hg⟩ := DataW.trod_struct ht h
  obtain ⟨rfl, _⟩ := Prod.mk.inj hx
  show cs = (xs.map (·.1)).flatMap f
  rw [List.flatMap_map]
  have hnl : fs.toList.length = n := by
    have := congrArg List.length hfs
    simpa using this
  have hxl : xs.length = n := by rw [hlen]; simpa using hnl
  refine cutX (fun y : DataW H × List MemPlace => f y.1) (P.cellsOf e) xs cs (by rw [hl, hc, hxl]) fun i y hy => ?_
  have hi : i < n := by
    have := (List.getElem?_eq_some_iff.1 hy).1
    omega
  have hfi : ∃ g, fs[i]? = some g ∧ g.type = e ∧ g.offset = i * P.cellsOf e := by
    have h1 := congrArg (fun l => l[i]?) hfs
    simp only [List.getElem?_map, List.getElem?_range hi, Option.map_some] at h1
    cases h2 : fs.toList[i]? with
    | none => rw [h2] at h1; simp at h1
    | some g =>
      rw [h2] at h1
      simp only [Option.map_some, Option.some.injEq, Prod.mk.injEq] at h1
      exact ⟨g, by rw [← Array.getElem?_toList]; exact h2, h1.1, h1.2⟩
  obtain ⟨g, h1, h2, h3⟩ := hfi
  have := hg i g h1
  rw [h2, h3, hy] at this
  exact he _ _ y.1 y.2 this
end

theorem LaidVars.get {P : Program} {w : World} : ∀ {l : List (String × DataW Unit)} {ps : List MemPlace}, DataW.LaidVars P w l ps → ∀ {i : Nat} {x : String × DataW Unit}, l[i]? = some x →
    ∃ g t cs fuel p, P.globalNamed x.1 = some g ∧ (P.globals[g]?).map (·.type) = some t ∧ w.var? P x.1 = some cs ∧ DataW.trod (fun _ => ()) P w 0 (fun _ => true) false fuel t cs.toList = some (x.2, p)
  | [], _, _, i, x, hx => by simp at hx
  | (n, d) :: r, ps, h, i, x, hx => by
    obtain ⟨g, t, cs, fuel, p, q, h1, h2, h3, h4, h5, _⟩ := h
    cases i with
    | zero =>
      simp only [List.getElem?_cons_zero, Option.some.injEq] at hx
      subst hx
      exact ⟨g, t, cs, fuel, p, h1, h2, h3, h4⟩
    | succ i => exact LaidVars.get h5 (by simpa using hx)
/-- A listed variable's block. -/
theorem laid_cells {P : Program} {w : World} {l : List (String × DataW Unit)} (hp : (l.all fun x => x.2.handleName?.isNone) = true) (h : laidMetH P l w) (i : Nat) {x : String × DataW Unit} (hx : l[i]? = some x)
    {g : Nat} {t : TypeId} {f : DataW Unit → List Value} (hg : P.globalNamed x.1 = some g) (ht : (P.globals[g]?).map (·.type) = some t) (he : Ex (fun _ => ()) P w t f) {vs : List Value} (hv : f x.2 = vs) : ∃ e r, w.heap[g]? = some (.cells vs.toArray e r) := by
  rw [MakeChecks.laidMetH_plain _ _ _ hp] at h
  obtain ⟨ps, hl, _, _⟩ := h
  obtain ⟨g', t', cs, fuel, p, h1, h2, h3, h4⟩ := LaidVars.get hl hx
  obtain rfl := Option.some.inj (hg.symm.trans h1)
  obtain rfl := Option.some.inj (ht.symm.trans h2)
  have := he _ _ _ _ h4
  subst hv
  rw [← this, Array.toArray_toList]
  unfold World.var? at h3
  rw [hg] at h3
  simp only [Option.bind_some] at h3
  split at h3
  · rename_i c e r hh
    cases Option.some.inj h3
    exact ⟨e, r, hh⟩
  · cases h3
theorem GI.cons_of {w : World} {l : List (Nat × List Value)} (h : ∀ x ∈ l, ∃ e r, w.heap[x.1]? = some (.cells x.2.toArray e r)) (hg : gtab = l) : GI w.heap.size w (fun _ => True) := fun x hx => by
  obtain ⟨e, r, h1⟩ := h x (hg ▸ hx)
  refine ⟨?_, trivial, e, r, h1⟩
  exact (Array.getElem?_eq_some_iff.1 h1).1
end Go.PW
