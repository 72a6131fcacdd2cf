/-
 From a row's reading of arguments to data, and from a function's contract to the row's step. For every program.
-/
import Derived.Test.YtbndgoeahoadlaaGreatDoorPwX
import Derived.ProofKit
import Derived.OpenShut
import Derived.Carry
import Derived.ChangeSame
set_option linter.all false
namespace Go.PW
open Go.RowKit Go.ChangeShapes Go.WideShapes

section
variable {H : Type} {enc : TypeId × Value → H} {P : Program} {w : World}

def Rd {H : Type} (enc : TypeId × Value → H) (P : Program) (w : World) (t : TypeId) {α : Type} (e : α → List D) (good : α → Prop) : Prop :=
 ∀ fuel cs x, DataW.trod enc P w 0 (fun _ => true) true fuel t cs = some x → ∃ a : α, RepAll w (fun _ => True) (e a) cs ∧ good a

theorem Rd.int {t : TypeId} {k : IntKind} (ht : P.underlying t = some (.int k)) : Rd enc P w t (fun n : Int => [.val (.int k n)]) (fun n => (Lit.int k n).wf = true) := fun fuel cs x h => by
 obtain ⟨n, rfl, _, hw⟩ := DataW.trod_int ht h
 exact ⟨n, by simp [RepAll, RepD], hw⟩
theorem Rd.i64 {t : TypeId} (ht : P.underlying t = some (.int .i64)) : Rd enc P w t (fun n : Int => [I n]) (fun n => -9223372036854775808 ≤ n ∧ n ≤ 9223372036854775807) := fun fuel cs x h => by
 obtain ⟨n, hr, hw⟩ := Rd.int ht fuel cs x h
 refine ⟨n, hr, ?_⟩
 simp only [Lit.wf, Bool.and_eq_true, decide_eq_true_eq] at hw
 have e1 : IntKind.i64.min = -9223372036854775808 := by decide
 have e2 : IntKind.i64.max = 9223372036854775807 := by decide
 rw [e1, e2] at hw
 exact hw
theorem RepAll.append {S : Nat → Prop} : ∀ {ds : List D} {vs : List Value} {ds' : List D} {vs' : List Value}, RepAll w S ds vs → RepAll w S ds' vs' → RepAll w S (ds ++ ds') (vs ++ vs')
 | [], _, _, _, h, h' => by simp only [RepAll] at h; subst h; exact h'
 | _ :: _, _, _, _, h, h' => by
  simp only [RepAll] at h
  obtain ⟨v, vs', rfl, hr, ht⟩ := h
  simp only [List.cons_append, RepAll]
  exact ⟨v, _, rfl, hr, RepAll.append ht h'⟩
def RdF {H : Type} (enc : TypeId × Value → H) (P : Program) (w : World) (fs : List (TypeId × Nat)) (o : Nat) {α : Type} (e : α → List D) (good : α → Prop) : Prop :=
 ∀ n (cs : List Value), cs.length = fs.foldl (fun k f => k + P.cellsOf f.1) o → (∀ f ∈ fs, ∃ y, DataW.trod enc P w 0 (fun _ => true) true n f.1 ((cs.drop f.2).take (P.cellsOf f.1)) = some y) → ∃ a : α, RepAll w (fun _ => True) (e a) (cs.drop o) ∧ good a
theorem RdF.nil {o : Nat} : RdF enc P w [] o (fun _ : Unit => []) (fun _ => True) := fun n cs hl _ => ⟨(), by
 have : cs.drop o = [] := by simp only [List.foldl_nil] at hl; rw [← hl]; simp
 rw [this]; simp [RepAll], trivial⟩
theorem RdF.cons {t : TypeId} {fs : List (TypeId × Nat)} {o o' : Nat} {α β : Type} {e : α → List D} {good : α → Prop} {e' : β → List D} {good' : β → Prop} (hc : o' = o + P.cellsOf t) (h1 : Rd enc P w t e good) (h2 : RdF enc P w fs o' e' good') :
  RdF enc P w ((t, o) :: fs) o (fun x : α × β => e x.1 ++ e' x.2) (fun x => good x.1 ∧ good' x.2) := fun n cs hl hf => by
 obtain ⟨y, hy⟩ := hf (t, o) List.mem_cons_self
 obtain ⟨a, ha, ga⟩ := h1 _ _ _ hy
 subst hc
 obtain ⟨b, hb, gb⟩ := h2 n cs (by simpa using hl) fun g hg => hf g (List.mem_cons_of_mem _ hg)
 refine ⟨(a, b), ?_, ga, gb⟩
 have : cs.drop o = (cs.drop o).take (P.cellsOf t) ++ cs.drop (o + P.cellsOf t) := by
  rw [← List.drop_drop, List.take_append_drop]
 rw [this]
 exact RepAll.append ha hb
theorem Rd.struct {t : TypeId} {fs : Array Field} {l : List (TypeId × Nat)} {α : Type} {e : α → List D} {good : α → Prop} (ht : P.underlying t = some (.struct fs)) (hfs : fs.toList.map (fun f => (f.type, f.offset)) = l) (hc : P.cellsOf t = l.foldl (fun k f => k + P.cellsOf f.1) 0) (hf : RdF enc P w l 0 e good) : Rd enc P w t e good := fun fuel cs x h => by
 obtain ⟨xs, n, _, _, hl, hlen, hg⟩ := DataW.trod_struct ht h
 subst hfs
 obtain ⟨a, h1, h2⟩ := hf n cs (by omega) fun f hfm => by
  obtain ⟨f', hf', rfl⟩ := List.mem_map.1 hfm
  obtain ⟨i, hi, rfl⟩ := List.mem_iff_getElem.1 hf'
  rw [Array.length_toList] at hi
  have := hg i fs.toList[i] (by simp [hi])
  rw [List.getElem?_eq_getElem (by omega)] at this
  exact ⟨_, this⟩
 exact ⟨a, by simpa using h1, h2⟩

theorem Rd.array {t el : TypeId} {n : Nat} {l : List (TypeId × Nat)} {α : Type} {e : α → List D} {good : α → Prop} (ht : P.underlying t = some (.array n el)) (hfs : (List.range n).map (fun i => (el, i * P.cellsOf el)) = l) (hc : P.cellsOf t = l.foldl (fun k f => k + P.cellsOf f.1) 0) (hf : RdF enc P w l 0 e good) : Rd enc P w t e good := fun fuel cs x h => by
 obtain ⟨xs, m, _, _, hl, hlen, hg⟩ := DataW.trod_array ht h
 subst hfs
 obtain ⟨a, h1, h2⟩ := hf m cs (by omega) fun f hfm => by
  obtain ⟨i, hi, rfl⟩ := List.mem_map.1 hfm
  have hin : i < n := List.mem_range.1 hi
  have := hg i hin
  rw [List.getElem?_eq_getElem (by omega)] at this
  exact ⟨_, this⟩
 exact ⟨a, by simpa using h1, h2⟩
theorem no_agg_int {t : TypeId} {k : IntKind} (ht : P.underlying t = some (.int k)) (b0 : Nat) (cs : Array Value) : ¬ Value.okWide P w .any b0 t (.agg cs) := by
 simp [Value.okWide, ht, Cell.okWide, Cell.ok]
theorem is_agg_struct {t : TypeId} {fs : Array Field} (ht : P.underlying t = some (.struct fs)) (b0 : Nat) (v : Value) (h : Value.okWide P w .any b0 t v) : ∃ cs, v = .agg cs := by
 simp only [Value.okWide, ht] at h
 obtain ⟨cs, h, _⟩ := h
 exact ⟨cs, h⟩
theorem Rd.one {t : TypeId} {α : Type} {e : α → D} {good : α → Prop} (hr : Rd enc P w t (fun a => [e a]) good) {b0 : Nat} {v : Value} {d : DataW H} {ps : List MemPlace} (hd : DataW.Trod enc P w 0 (fun _ => true) true t v d ps)
  (hval : Value.okWide P w .any b0 t v) (hns : ∀ cs, ¬ Value.okWide P w .any b0 t (.agg cs)) : ∃ a, RepD w (fun _ => True) (e a) v ∧ good a := by
 obtain ⟨n, hn⟩ := hd
 obtain ⟨a, h1, h2⟩ := hr _ _ _ hn
 simp only [RepAll] at h1
 obtain ⟨u, us, hu, hrep, rfl⟩ := h1
 refine ⟨a, ?_, h2⟩
 cases v with
 | agg cs => exact absurd hval (hns cs)
 | _ => simp [Value.cells] at hu; subst hu; exact hrep
theorem Rd.agg {t : TypeId} {α : Type} {e : α → List D} {good : α → Prop} (hr : Rd enc P w t e good) {b0 : Nat} {v : Value} {d : DataW H} {ps : List MemPlace} (hd : DataW.Trod enc P w 0 (fun _ => true) true t v d ps)
  (hval : Value.okWide P w .any b0 t v) (hs : ∀ v, Value.okWide P w .any b0 t v → ∃ cs, v = .agg cs) : ∃ a, RepD w (fun _ => True) (.agg (e a)) v ∧ good a := by
 obtain ⟨n, hn⟩ := hd
 obtain ⟨a, h1, h2⟩ := hr _ _ _ hn
 obtain ⟨cs, rfl⟩ := hs v hval
 refine ⟨a, ?_, h2⟩
 simp only [RepD]
 exact ⟨cs.toList, by simp, by simpa [Value.cells] using h1⟩
end

theorem trodAll_below {H : Type} {enc : TypeId × Value → H} {P : Program} {W W' : World} (hl : laidOutB P = true) (hbelow : Below W.heap.size W W') : ∀ {ts : List TypeId} {vs : List Value} {ds : List (DataW H)} {p : List MemPlace}, (∀ t ∈ ts, P.readableRec t = true ∧ t < P.types.size) →
  DataW.TrodAll enc P W 0 (fun _ => true) true ts vs ds p → (∀ x ∈ p, x.block < W.heap.size) → DataW.TrodAll enc P W' 0 (fun b => decide (b < W.heap.size)) true ts vs ds p
 | [], _, _, _, _, hA, _ => by obtain ⟨rfl, rfl, rfl⟩ := trodAll_nil hA; exact trodAll_mk0
 | t :: ts, _, _, _, hts, hA, hlt => by
  obtain ⟨v, vs', d, ds', p1, q1, rfl, rfl, rfl, hd, ht⟩ := trodAll_cons hA
  have ht0 := hts t List.mem_cons_self
  exact ⟨p1, q1, Below.trod hl ht0.1 ht0.2 hd hbelow (fun x hx => hlt x (List.mem_append_left _ hx)), trodAll_below hl hbelow (fun t' h' => hts t' (List.mem_cons_of_mem _ h')) ht (fun x hx => hlt x (List.mem_append_right _ hx)), rfl⟩
theorem law_post {H : Type} {enc : TypeId × Value → H} {P : Program} {f : FuncId} {fn : Func} {s : ChangeSpec} {W : World} {args : Array Value} {ds gs : List (DataW H)} {before : List MemPlace} {es : List D} {bt : TypeId}
  (hl : laidOutB P = true) (hts : ∀ t ∈ fn.params.toList, P.readableRec t = true ∧ t < P.types.size) (hb : fn.resultTypes = #[bt]) (hbt : P.underlying bt = some .bool) (hv : s.vars = [])
  (hs : ∀ gs' : List (DataW H), gs' = [] → (s.fn H (ds ++ gs')).results = [.lit (.bool true)] ∧ (s.fn H (ds ++ gs')).args = ds ∧ (s.fn H (ds ++ gs')).vars = [])
  (hW : DataW.Whole enc P fn.params.toList s.vars false W args.toList ds gs before) (hc : CallOK P f es (.d (Bo true)) []) (hr : RepAll W (fun _ => True) es args.toList) (hgi : GI W.heap.size W (fun _ => True)) :
  Calls P f args W fun e W' => ∃ v, e = .returned v ∧ s.post enc P fn false true false false W args v W' := by
 have hlt := hW.lt
 have hW0 := hW
 obtain ⟨p, q, hA, hV, rfl, hz, hn⟩ := hW
 rw [hv] at hV
 obtain ⟨rfl, rfl⟩ := trodVars_none hV
 have hcall := hc.2 W (fun _ => True) args.toList hgi hr
 rw [Array.toArray_toList] at hcall
 refine hcall.mono fun e W' ⟨v, φ, he, hres⟩ => ⟨v, he, ?_⟩
 have hbelow := hres.below
 have hv' : v = .bool true := by have := hres.rep; simpa [RepV, RepD] using this
 subst hv'
 obtain ⟨h1, h2, h3⟩ := hs [] rfl
 have hargs : DataW.TrodAll enc P W' 0 (fun b => decide (b < W.heap.size)) true fn.params.toList args.toList ds p := by
  have hlt' : ∀ x ∈ p, x.block < W.heap.size := fun x hx => hlt x (by simpa using hx)
  exact trodAll_below hl hbelow hts hA hlt'
 refine ⟨ds, [], p ++ [], [], p, [], hW0, ?_, by rw [h2]; exact hargs, by rw [hv, h3]; rfl, World.keptBut_mono (fun x hx => ⟨hx, .inr (.inl (by simpa using hx))⟩) (hbelow.frame _), fun h => by cases h⟩
 rw [h1, hb]
 exact trodAll_mk1 (shut_bool hbt _)
end Go.PW
