import Derived.Test.YtbndgoeahoadlaaGreatDoorPwX
import Derived.ProofKit
import Derived.OpenShut
import Derived.Carry
import Derived.ChangeSame
import Derived.LaidMore
import Derived.MakeChecks
set_option linter.all false
namespace Go.PW
open Go.RowKit Go.ChangeShapes Go.WideShapes

section
variable {H : Type} {enc : TypeId × Value → H} {P : Program} {w : World}

/-- What the cells of a type read as, told as data. -/
def Rd {H : Type} (enc : TypeId × Value → H) (P : Program) (w : World) (t : TypeId) {α : Type} (e : α → List D) (good : α → Prop) : Prop :=
  ∀ fuel cs x, DataW.trod enc P w 0 (fun _ => true) true fuel t cs = some x → ∃ a : α, RepAll w (fun _ => True) (e a) cs ∧ good a

theorem Rd.int {t : TypeId} {k : IntKind} (ht : P.underlying t = some (.int k)) : Rd enc P w t (fun n : Int => [.val (.int k n)]) (fun n => (Lit.int k n).wf = true) := fun fuel cs x h => by
  obtain ⟨n, rfl, _, hw⟩ := DataW.trod_int ht h
  exact ⟨n, by simp [RepAll, RepD], hw⟩
theorem Rd.i64 {t : TypeId} (ht : P.underlying t = some (.int .i64)) : Rd enc P w t (fun n : Int => [I n]) (fun n => -9223372036854775808 ≤ n ∧ n ≤ 9223372036854775807) := fun fuel cs x h => by
  obtain ⟨n, hr, hw⟩ := Rd.int ht fuel cs x h
  refine ⟨n, hr, ?_⟩
  simp only [Lit.wf, Bool.and_eq_true, decide_eq_true_eq] at hw
  have e1 : IntKind.i64.min = -9223372036854775808 := by decide
  have e2 : IntKind.i64.max = 9223372036854775807 := by decide
  rw [e1, e2] at hw
  exact hw
theorem Rd.bool {t : TypeId} (ht : P.underlying t = some .bool) : Rd enc P w t (fun b : Bool => [Bo b]) (fun _ => True) := fun fuel cs x h => by
  obtain ⟨b, rfl, _⟩ := DataW.trod_bool ht h
  exact ⟨b, by simp [RepAll, RepD], trivial⟩
theorem Rd.string {t : TypeId} (ht : P.underlying t = some .string) : Rd enc P w t (fun s : ByteArray => [Sx s]) (fun s => s.size ≤ maxLen) := fun fuel cs x h => by
  obtain ⟨s, rfl, _, hs⟩ := DataW.trod_string ht h
  exact ⟨s, by simp [RepAll, RepD], hs⟩
theorem Rd.turn {t : TypeId} {α β : Type} {e : α → List D} {good : α → Prop} {e' : β → List D} {good' : β → Prop} (h : Rd enc P w t e good) (f : α → β) (he : ∀ a, e' (f a) = e a) (hg : ∀ a, good a → good' (f a)) : Rd enc P w t e' good' := fun fuel cs x hx => by
  obtain ⟨a, h1, h2⟩ := h fuel cs x hx
  exact ⟨f a, by rw [he]; exact h1, hg a h2⟩

theorem RepAll.append {S : Nat → Prop} : ∀ {ds : List D} {vs : List Value} {ds' : List D} {vs' : List Value}, RepAll w S ds vs → RepAll w S ds' vs' → RepAll w S (ds ++ ds') (vs ++ vs')
  | [], _, _, _, h, h' => by simp only [RepAll] at h; subst h; exact h'
  | _ :: _, _, _, _, h, h' => by
    simp only [RepAll] at h
    obtain ⟨v, vs', rfl, hr, ht⟩ := h
    simp only [List.cons_append, RepAll]
    exact ⟨v, _, rfl, hr, RepAll.append ht h'⟩
theorem RepCells.append {S : Nat → Prop} {b : Nat} : ∀ {ds ds' : List D} {o : Nat}, RepCells w S ds b o → RepCells w S ds' b (o + ds.length) → RepCells w S (ds ++ ds') b o
  | [], _, _, _, h' => by simpa using h'
  | d :: ds, ds', o, h, h' => by
    simp only [RepCells] at h
    simp only [List.cons_append, RepCells]
    refine ⟨h.1, RepCells.append h.2 ?_⟩
    rw [List.length_cons] at h'
    rw [show o + 1 + ds.length = o + (ds.length + 1) by omega]; exact h'
theorem rdCells_of {S : Nat → Prop} {b o : Nat} {ds : List D} {cs : List Value} (hS : S b) (hr : RepAll w S ds cs) (hc : ∀ i, i < cs.length → w.cell? ⟨b, o + i, none⟩ = cs[i]?) : RepCells w S ds b o := by
  have hl := RepAll.length _ _ hr
  refine RepCells.intro _ _ _ fun k hk => ⟨hS, cs.getD k undef, ?_, RepAll.get _ _ hr k hk⟩
  have hkc : k < cs.length := by omega
  rw [hc k hkc]
  simp [List.getD_eq_getElem?_getD, hkc]

/-- A slice of elements that can be read. -/
theorem Rd.slice {t el : TypeId} {α : Type} {e : α → List D} {good : α → Prop} (ht : P.underlying t = some (.slice el)) (hpos : 0 < P.cellsOf el) (hel : Rd enc P w el e good) :
    Rd enc P w t (fun xs : List α => [.list xs.length (xs.flatMap e)]) (fun xs => xs.length ≤ maxLen ∧ ∀ a ∈ xs, good a) := fun fuel cs x h => by
  rcases DataW.trod_slice ht h with ⟨rfl, _⟩ | ⟨a, len, cap, elems, rest, n, rfl, rfl, _, _, hlc, hcm, hlen, hread, _, _⟩
  · exact ⟨[], by simp [RepAll, RepD], by simp [maxLen], by simp⟩
  · by_cases h0 : len = 0
    · subst h0
      exact ⟨[], by simp [RepAll, RepD], by simp [maxLen], by simp⟩
    · have hget : ∀ i, i < len → ∃ (cs' : List Value) (y : DataW H × List MemPlace), w.cells? 0 (a.add (i * P.cellsOf el)) (P.cellsOf el) = some cs' ∧ DataW.trod enc P w 0 (fun _ => true) true n el cs' = some y := fun i hi => by
        have := hread i hi
        rw [List.getElem?_eq_getElem (by omega)] at this
        obtain ⟨cs', h1, h2⟩ := Option.bind_eq_some_iff.1 this
        exact ⟨cs', _, h1, h2⟩
      have hspot : ∃ b o, a = ⟨b, o, none⟩ := by
        obtain ⟨cs', _, h1, _⟩ := hget 0 (by omega)
        unfold World.cells? at h1
        rw [if_pos (Nat.zero_le _)] at h1
        have h2 := mapM_some_get h1 0 0 (by simp [hpos])
        have hl := mapM_some_length h1
        rw [List.length_range] at hl
        rw [List.getElem?_eq_getElem (by omega)] at h2
        obtain ⟨b, o, spot⟩ := a
        have hsp : spot = none := by simpa [Addr.add] using World.cell?_spot h2
        subst hsp
        exact ⟨b, o, rfl⟩
      obtain ⟨b, o, rfl⟩ := hspot
      have hone : ∀ i, i < len → ∃ y : α, RepCells w (fun _ => True) (e y) b (o + i * P.cellsOf el) ∧ (e y).length = P.cellsOf el ∧ good y := fun i hi => by
        obtain ⟨cs', y, h1, h2⟩ := hget i hi
        obtain ⟨z, hr, hg⟩ := hel _ _ _ h2
        unfold World.cells? at h1
        rw [if_pos (Nat.zero_le _)] at h1
        have hl := mapM_some_length h1
        rw [List.length_range] at hl
        refine ⟨z, rdCells_of trivial hr fun j hj => ?_, by rw [← RepAll.length _ _ hr, hl], hg⟩
        have h3 := mapM_some_get h1 j j (List.getElem?_range (by omega))
        rw [← h3]
        rw [Go.WideShapes.add_plain, Go.WideShapes.add_plain]
      have hall : ∀ m, m ≤ len → ∃ ys : List α, ys.length = m ∧ RepCells w (fun _ => True) (ys.flatMap e) b o ∧ (ys.flatMap e).length = m * P.cellsOf el ∧ ∀ y ∈ ys, good y := fun m => by
        induction m with
        | zero => exact fun _ => ⟨[], rfl, by simp [RepCells], by simp, by simp⟩
        | succ m ih =>
          intro hm
          obtain ⟨ys, h1, h2, h3, h4⟩ := ih (by omega)
          obtain ⟨y, k1, k2, k3⟩ := hone m (by omega)
          refine ⟨ys ++ [y], by simp [h1], ?_, by simp [h3, k2, Nat.succ_mul], fun z hz => ?_⟩
          · simp only [List.flatMap_append, List.flatMap_cons, List.flatMap_nil, List.append_nil]
            exact RepCells.append h2 (by rw [h3]; exact k1)
          · rcases List.mem_append.1 hz with hz | hz
            · exact h4 z hz
            · simp at hz; subst hz; exact k3
      obtain ⟨ys, h1, h2, _, h4⟩ := hall len (Nat.le_refl _)
      refine ⟨ys, ?_, by omega, h4⟩
      simp only [RepAll, RepD]
      exact ⟨_, [], rfl, ⟨_, cap, by rw [h1], by omega, .inr ⟨b, o, rfl, h2⟩⟩, rfl⟩
/-- A slice of numbers. -/
theorem Rd.ints {t el : TypeId} (ht : P.underlying t = some (.slice el)) (hel : P.underlying el = some (.int .i64)) (hc : P.cellsOf el = 1) :
    Rd enc P w t (fun xs : List Int => [L xs]) (fun xs => xs.length ≤ maxLen ∧ ∀ n ∈ xs, -9223372036854775808 ≤ n ∧ n ≤ 9223372036854775807) :=
  (Rd.slice ht (by omega) (Rd.i64 hel)).turn id (fun xs => by simp [List.flatMap_singleton' , List.map_eq_flatMap]) fun _ h => h

/-- Fields one behind the other: types, places. -/
def RdF {H : Type} (enc : TypeId × Value → H) (P : Program) (w : World) (fs : List (TypeId × Nat)) (o : Nat) {α : Type} (e : α → List D) (good : α → Prop) : Prop :=
  ∀ n (cs : List Value), cs.length = fs.foldl (fun k f => k + P.cellsOf f.1) o → (∀ f ∈ fs, ∃ y, DataW.trod enc P w 0 (fun _ => true) true n f.1 ((cs.drop f.2).take (P.cellsOf f.1)) = some y) → ∃ a : α, RepAll w (fun _ => True) (e a) (cs.drop o) ∧ good a
theorem RdF.nil {o : Nat} : RdF enc P w [] o (fun _ : Unit => []) (fun _ => True) := fun n cs hl _ => ⟨(), by
  have : cs.drop o = [] := by simp only [List.foldl_nil] at hl; rw [← hl]; simp
  rw [this]; simp [RepAll], trivial⟩
theorem RdF.cons {t : TypeId} {fs : List (TypeId × Nat)} {o o' : Nat} {α β : Type} {e : α → List D} {good : α → Prop} {e' : β → List D} {good' : β → Prop} (hc : o' = o + P.cellsOf t) (h1 : Rd enc P w t e good) (h2 : RdF enc P w fs o' e' good') :
    RdF enc P w ((t, o) :: fs) o (fun x : α × β => e x.1 ++ e' x.2) (fun x => good x.1 ∧ good' x.2) := fun n cs hl hf => by
  obtain ⟨y, hy⟩ := hf (t, o) List.mem_cons_self
  obtain ⟨a, ha, ga⟩ := h1 _ _ _ hy
  subst hc
  obtain ⟨b, hb, gb⟩ := h2 n cs (by simpa using hl) fun g hg => hf g (List.mem_cons_of_mem _ hg)
  refine ⟨(a, b), ?_, ga, gb⟩
  have : cs.drop o = (cs.drop o).take (P.cellsOf t) ++ cs.drop (o + P.cellsOf t) := by
    rw [← List.drop_drop, List.take_append_drop]
  rw [this]
  exact RepAll.append ha hb
theorem C0 {t : TypeId} {fs : Array Field} {l : List (TypeId × Nat)} {α : Type} {e : α → List D} {good : α → Prop} (ht : P.underlying t = some (.struct fs)) (hfs : fs.toList.map (fun f => (f.type, f.offset)) = l) (hc : P.cellsOf t = l.foldl (fun k f => k + P.cellsOf f.1) 0) (hf : RdF enc P w l 0 e good) : Rd enc P w t e good := fun fuel cs x h => by
  obtain ⟨xs, n, _, _, hl, hlen, hg⟩ := DataW.trod_struct ht h
  subst hfs
  obtain ⟨a, h1, h2⟩ := hf n cs (by omega) fun f hfm => by
    obtain ⟨f', hf', rfl⟩ := List.mem_map.1 hfm
    obtain ⟨i, hi, rfl⟩ := List.mem_iff_getElem.1 hf'
    rw [Array.length_toList] at hi
    have := hg i fs.toList[i] (by simp [hi])
    rw [List.getElem?_eq_getElem (by omega)] at this
    exact ⟨_, this⟩
  exact ⟨a, by simpa using h1, h2⟩

theorem Rd.array {t el : TypeId} {n : Nat} {l : List (TypeId × Nat)} {α : Type} {e : α → List D} {good : α → Prop} (ht : P.underlying t = some (.array n el)) (hfs : (List.range n).map (fun i => (el, i * P.cellsOf el)) = l) (hc : P.cellsOf t = l.foldl (fun k f => k + P.cellsOf f.1) 0) (hf : RdF enc P w l 0 e good) : Rd enc P w t e good := fun fuel cs x h => by
  obtain ⟨xs, m, _, _, hl, hlen, hg⟩ := DataW.trod_array ht h
  subst hfs
  obtain ⟨a, h1, h2⟩ := hf m cs (by omega) fun f hfm => by
    obtain ⟨i, hi, rfl⟩ := List.mem_map.1 hfm
    have hin : i < n := List.mem_range.1 hi
    have := hg i hin
    rw [List.getElem?_eq_getElem (by omega)] at this
    exact ⟨_, this⟩
  exact ⟨a, by simpa using h1, h2⟩
theorem no_agg_slice {t e : TypeId} (ht : P.underlying t = some (.slice e)) (b0 : Nat) (cs : Array Value) : ¬ Value.okWide P w .any b0 t (.agg cs) := by
  simp [Value.okWide, ht, Cell.okWide, Cell.ok]
theorem no_agg_int {t : TypeId} {k : IntKind} (ht : P.underlying t = some (.int k)) (b0 : Nat) (cs : Array Value) : ¬ Value.okWide P w .any b0 t (.agg cs) := by
  simp [Value.okWide, ht, Cell.okWide, Cell.ok]
theorem no_agg_bool {t : TypeId} (ht : P.underlying t = some .bool) (b0 : Nat) (cs : Array Value) : ¬ Value.okWide P w .any b0 t (.agg cs) := by
  simp [Value.okWide, ht, Cell.okWide, Cell.ok]
theorem no_agg_string {t : TypeId} (ht : P.underlying t = some .string) (b0 : Nat) (cs : Array Value) : ¬ Value.okWide P w .any b0 t (.agg cs) := by
  simp [Value.okWide, ht, Cell.okWide, Cell.ok]
theorem is_agg_struct {t : TypeId} {fs : Array Field} (ht : P.underlying t = some (.struct fs)) (b0 : Nat) (v : Value) (h : Value.okWide P w .any b0 t v) : ∃ cs, v = .agg cs := by
  simp only [Value.okWide, ht] at h
  obtain ⟨cs, h, _⟩ := h
  exact ⟨cs, h⟩
theorem is_agg_array {t e : TypeId} {n : Nat} (ht : P.underlying t = some (.array n e)) (b0 : Nat) (v : Value) (h : Value.okWide P w .any b0 t v) : ∃ cs, v = .agg cs := by
  simp only [Value.okWide, ht] at h
  obtain ⟨cs, h, _⟩ := h
  exact ⟨cs, h⟩
/-- A value of one cell. -/
theorem Rd.one {t : TypeId} {α : Type} {e : α → D} {good : α → Prop} (hr : Rd enc P w t (fun a => [e a]) good) {b0 : Nat} {v : Value} {d : DataW H} {ps : List MemPlace} (hd : DataW.Trod enc P w 0 (fun _ => true) true t v d ps)
    (hval : Value.okWide P w .any b0 t v) (hns : ∀ cs, ¬ Value.okWide P w .any b0 t (.agg cs)) : ∃ a, RepD w (fun _ => True) (e a) v ∧ good a := by
  obtain ⟨n, hn⟩ := hd
  obtain ⟨a, h1, h2⟩ := hr _ _ _ hn
  simp only [RepAll] at h1
  obtain ⟨u, us, hu, hrep, rfl⟩ := h1
  refine ⟨a, ?_, h2⟩
  cases v with
  | agg cs => exact absurd hval (hns cs)
  | _ => simp [Value.cells] at hu; subst hu; exact hrep
/-- A struct value. -/
theorem Rd.agg {t : TypeId} {α : Type} {e : α → List D} {good : α → Prop} (hr : Rd enc P w t e good) {b0 : Nat} {v : Value} {d : DataW H} {ps : List MemPlace} (hd : DataW.Trod enc P w 0 (fun _ => true) true t v d ps)
    (hval : Value.okWide P w .any b0 t v) (hs : ∀ v, Value.okWide P w .any b0 t v → ∃ cs, v = .agg cs) : ∃ a, RepD w (fun _ => True) (.agg (e a)) v ∧ good a := by
  obtain ⟨n, hn⟩ := hd
  obtain ⟨a, h1, h2⟩ := hr _ _ _ hn
  obtain ⟨cs, rfl⟩ := hs v hval
  refine ⟨a, ?_, h2⟩
  simp only [RepD]
  exact ⟨cs.toList, by simp, by simpa [Value.cells] using h1⟩
end

theorem trodAll_below {H : Type} {enc : TypeId × Value → H} {P : Program} {W W' : World} (hl : laidOutB P = true) (hbelow : Below W.heap.size W W') : ∀ {ts : List TypeId} {vs : List Value} {ds : List (DataW H)} {p : List MemPlace}, (∀ t ∈ ts, P.readableRec t = true ∧ t < P.types.size) →
    DataW.TrodAll enc P W 0 (fun _ => true) true ts vs ds p → (∀ x ∈ p, x.block < W.heap.size) → DataW.TrodAll enc P W' 0 (fun b => decide (b < W.heap.size)) true ts vs ds p
  | [], _, _, _, _, hA, _ => by obtain ⟨rfl, rfl, rfl⟩ := trodAll_nil hA; exact trodAll_mk0
  | t :: ts, _, _, _, hts, hA, hlt => by
    obtain ⟨v, vs', d, ds', p1, q1, rfl, rfl, rfl, hd, ht⟩ := trodAll_cons hA
    have ht0 := hts t List.mem_cons_self
    exact ⟨p1, q1, Below.trod hl ht0.1 ht0.2 hd hbelow (fun x hx => hlt x (List.mem_append_left _ hx)), trodAll_below hl hbelow (fun t' h' => hts t' (List.mem_cons_of_mem _ h')) ht (fun x hx => hlt x (List.mem_append_right _ hx)), rfl⟩
/-- **The row's step.** -/
theorem law_post {H : Type} {enc : TypeId × Value → H} {P : Program} {f : FuncId} {fn : Func} {s : ChangeSpec} {W : World} {args : Array Value} {ds gs : List (DataW H)} {before : List MemPlace} {es : List D} {bt : TypeId}
    (hl : laidOutB P = true) (hts : ∀ t ∈ fn.params.toList, P.readableRec t = true ∧ t < P.types.size) (hb : fn.resultTypes = #[bt]) (hbt : P.underlying bt = some .bool) (hv : s.vars = [])
    (hs : ∀ gs' : List (DataW H), gs' = [] → (s.fn H (ds ++ gs')).results = [.lit (.bool true)] ∧ (s.fn H (ds ++ gs')).args = ds ∧ (s.fn H (ds ++ gs')).vars = [])
    (hW : DataW.Whole enc P fn.params.toList s.vars false W args.toList ds gs before) (hc : CallOK P f es (.d (Bo true)) []) (hr : RepAll W (fun _ => True) es args.toList) (hgi : GI W.heap.size W (fun _ => True)) :
    Calls P f args W fun e W' => ∃ v, e = .returned v ∧ s.post enc P fn false true false false W args v W' := by
  have hlt := hW.lt
  have hW0 := hW
  obtain ⟨p, q, hA, hV, rfl, hz, hn⟩ := hW
  rw [hv] at hV
  obtain ⟨rfl, rfl⟩ := trodVars_none hV
  have hcall := hc.2 W (fun _ => True) args.toList hgi hr
  rw [Array.toArray_toList] at hcall
  refine hcall.mono fun e W' ⟨v, φ, he, hres⟩ => ⟨v, he, ?_⟩
  have hbelow := hres.below
  have hv' : v = .bool true := by have := hres.rep; simpa [RepV, RepD] using this
  subst hv'
  obtain ⟨h1, h2, h3⟩ := hs [] rfl
  have hargs : DataW.TrodAll enc P W' 0 (fun b => decide (b < W.heap.size)) true fn.params.toList args.toList ds p := by
    have hlt' : ∀ x ∈ p, x.block < W.heap.size := fun x hx => hlt x (by simpa using hx)
    exact trodAll_below hl hbelow hts hA hlt'
  refine ⟨ds, [], p ++ [], [], p, [], hW0, ?_, by rw [h2]; exact hargs, by rw [hv, h3]; rfl, World.keptBut_mono (fun x hx => ⟨hx, .inr (.inl (by simpa using hx))⟩) (hbelow.frame _), fun h => by cases h⟩
  rw [h1, hb]
  exact trodAll_mk1 (shut_bool hbt _)
end Go.PW

namespace Go.PW
open Go.RowKit Go.ChangeShapes Go.WideShapes

/-- The cells that a datum of a type is read from. -/
def Ex {H : Type} (enc : TypeId × Value → H) (P : Program) (w : World) (t : TypeId) (f : DataW H → List Value) : Prop :=
  ∀ fuel cs d p, DataW.trod enc P w 0 (fun _ => true) false fuel t cs = some (d, p) → cs = f d
def exB {H : Type} : DataW H → List Value
  | .lit (.bool b) => [.bool b]
  | _ => []
def exI {H : Type} : DataW H → List Value
  | .lit (.int k n) => [.int k n]
  | _ => []
def exA {H : Type} (f : DataW H → List Value) : DataW H → List Value
  | .agg l => l.flatMap f
  | _ => []

section
variable {H : Type} {enc : TypeId × Value → H} {P : Program} {w : World}
theorem Ex.bool {t : TypeId} (ht : P.underlying t = some .bool) : Ex enc P w t exB := fun fuel cs d p h => by
  obtain ⟨b, rfl, e⟩ := DataW.trod_bool ht h
  obtain ⟨rfl, _⟩ := Prod.mk.inj e
  rfl
theorem Ex.int {t : TypeId} {k : IntKind} (ht : P.underlying t = some (.int k)) : Ex enc P w t exI := fun fuel cs d p h => by
  obtain ⟨n, rfl, e, _⟩ := DataW.trod_int ht h
  obtain ⟨rfl, _⟩ := Prod.mk.inj e
  rfl
theorem cutX {α β : Type} (g : β → List α) (c : Nat) : ∀ (xs : List β) (cs : List α), cs.length = xs.length * c → (∀ i y, xs[i]? = some y → (cs.drop (i * c)).take c = g y) → cs = xs.flatMap g
  | [], cs, hl, _ => by
    have : cs.length = 0 := by rw [hl]; exact Nat.zero_mul c
    rw [List.eq_nil_of_length_eq_zero this]; rfl
  | x :: xs, cs, hl, h => by
    have h0 := h 0 x rfl
    rw [Nat.zero_mul, List.drop_zero] at h0
    have hr := cutX g c xs (cs.drop c) (by rw [List.length_drop, hl, List.length_cons, Nat.succ_mul]; omega) fun i y hy => by
      have := h (i + 1) y (by simpa using hy)
      rw [List.drop_drop, ← this, Nat.succ_mul, Nat.add_comm]
    rw [List.flatMap_cons, ← h0, ← hr, List.take_append_drop]
theorem Ex.array {t e : TypeId} {n : Nat} {f : DataW H → List Value} (ht : P.underlying t = some (.array n e)) (hc : P.cellsOf t = n * P.cellsOf e) (he : Ex enc P w e f) : Ex enc P w t (exA f) := fun fuel cs d p h => by
  obtain ⟨xs, m, _, hx, hl, hn, hg⟩ := DataW.trod_array ht h
  obtain ⟨rfl, _⟩ := Prod.mk.inj hx
  show cs = (xs.map (·.1)).flatMap f
  rw [List.flatMap_map]
  refine cutX (fun y : DataW H × List MemPlace => f y.1) (P.cellsOf e) xs cs (by rw [hl, hc, hn]) fun i y hy => ?_
  have hi : i < n := by
    have := (List.getElem?_eq_some_iff.1 hy).1
    omega
  have := hg i hi
  rw [hy] at this
  exact he _ _ y.1 y.2 this
theorem Ex.struct {t e : TypeId} {fs : Array Field} {n : Nat} {f : DataW H → List Value} (ht : P.underlying t = some (.struct fs)) (hfs : fs.toList.map (fun x => (x.type, x.offset)) = (List.range n).map fun i => (e, i * P.cellsOf e)) (hc : P.cellsOf t = n * P.cellsOf e) (he : Ex enc P w e f) : Ex enc P w t (exA f) := fun fuel cs d p h => by
  obtain ⟨xs, m, _, hx, hl, hlen, hg⟩ := DataW.trod_struct ht h
  obtain ⟨rfl, _⟩ := Prod.mk.inj hx
  show cs = (xs.map (·.1)).flatMap f
  rw [List.flatMap_map]
  have hnl : fs.toList.length = n := by
    have := congrArg List.length hfs
    simpa using this
  have hxl : xs.length = n := by rw [hlen]; simpa using hnl
  refine cutX (fun y : DataW H × List MemPlace => f y.1) (P.cellsOf e) xs cs (by rw [hl, hc, hxl]) fun i y hy => ?_
  have hi : i < n := by
    have := (List.getElem?_eq_some_iff.1 hy).1
    omega
  have hfi : ∃ g, fs[i]? = some g ∧ g.type = e ∧ g.offset = i * P.cellsOf e := by
    have h1 := congrArg (fun l => l[i]?) hfs
    simp only [List.getElem?_map, List.getElem?_range hi, Option.map_some] at h1
    cases h2 : fs.toList[i]? with
    | none => rw [h2] at h1; simp at h1
    | some g =>
      rw [h2] at h1
      simp only [Option.map_some, Option.some.injEq, Prod.mk.injEq] at h1
      exact ⟨g, by rw [← Array.getElem?_toList]; exact h2, h1.1, h1.2⟩
  obtain ⟨g, h1, h2, h3⟩ := hfi
  have := hg i g h1
  rw [h2, h3, hy] at this
  exact he _ _ y.1 y.2 this
end

theorem LaidVars.get {P : Program} {w : World} : ∀ {l : List (String × DataW Unit)} {ps : List MemPlace}, DataW.LaidVars P w l ps → ∀ {i : Nat} {x : String × DataW Unit}, l[i]? = some x →
    ∃ g t cs fuel p, P.globalNamed x.1 = some g ∧ (P.globals[g]?).map (·.type) = some t ∧ w.var? P x.1 = some cs ∧ DataW.trod (fun _ => ()) P w 0 (fun _ => true) false fuel t cs.toList = some (x.2, p)
  | [], _, _, i, x, hx => by simp at hx
  | (n, d) :: r, ps, h, i, x, hx => by
    obtain ⟨g, t, cs, fuel, p, q, h1, h2, h3, h4, h5, _⟩ := h
    cases i with
    | zero =>
      simp only [List.getElem?_cons_zero, Option.some.injEq] at hx
      subst hx
      exact ⟨g, t, cs, fuel, p, h1, h2, h3, h4⟩
    | succ i => exact LaidVars.get h5 (by simpa using hx)
/-- A listed variable's block. -/
theorem laid_cells {P : Program} {w : World} {l : List (String × DataW Unit)} (hp : (l.all fun x => x.2.handleName?.isNone) = true) (h : laidMetH P l w) (i : Nat) {x : String × DataW Unit} (hx : l[i]? = some x)
    {g : Nat} {t : TypeId} {f : DataW Unit → List Value} (hg : P.globalNamed x.1 = some g) (ht : (P.globals[g]?).map (·.type) = some t) (he : Ex (fun _ => ()) P w t f) {vs : List Value} (hv : f x.2 = vs) : ∃ e r, w.heap[g]? = some (.cells vs.toArray e r) := by
  rw [MakeChecks.laidMetH_plain _ _ _ hp] at h
  obtain ⟨ps, hl, _, _⟩ := h
  obtain ⟨g', t', cs, fuel, p, h1, h2, h3, h4⟩ := LaidVars.get hl hx
  obtain rfl := Option.some.inj (hg.symm.trans h1)
  obtain rfl := Option.some.inj (ht.symm.trans h2)
  have := he _ _ _ _ h4
  subst hv
  rw [← this, Array.toArray_toList]
  unfold World.var? at h3
  rw [hg] at h3
  simp only [Option.bind_some] at h3
  split at h3
  · rename_i c e r hh
    cases Option.some.inj h3
    exact ⟨e, r, hh⟩
  · cases h3
theorem GI.cons_of {w : World} {l : List (Nat × List Value)} (h : ∀ x ∈ l, ∃ e r, w.heap[x.1]? = some (.cells x.2.toArray e r)) (hg : gtab = l) : GI w.heap.size w (fun _ => True) := fun x hx => by
  obtain ⟨e, r, h1⟩ := h x (hg ▸ hx)
  refine ⟨?_, trivial, e, r, h1⟩
  exact (Array.getElem?_eq_some_iff.1 h1).1
end Go.PW
