/-
 From a row's reading of arguments to data, and from a function's contract to the row's step. For every program.
-/
import Derived.Test.YtbndgoeahoadlaaGreatDoorPwX
import Derived.ProofKit
import Derived.OpenShut
import Derived.Carry
import Derived.ChangeSame
set_option linter.all false
namespace Go.PW
open Go.RowKit Go.ChangeShapes Go.WideShapes

section
variable {H : Type} {enc : TypeId × Value → H} {P : Program} {w : World}

def Rd {H : Type} (enc : TypeId × Value → H) (P : Program) (w : World) (t : TypeId) {α : Type} (e : α → List D) (good : α → Prop) : Prop :=
 ∀ fuel cs x, DataW.trod enc P w 0 (fun _ => true) true fuel t cs = some x → ∃ a : α, RepAll w (fun _ => True) (e a) cs ∧ good a

theorem Rd.int {t : TypeId} {k : IntKind} (ht : P.underlying t = some (.int k)) : Rd enc P w t (fun n : Int => [.val (.int k n)]) (fun n => (Lit.int k n).wf = true) := fun fuel cs x h => by
 obtain ⟨n, rfl, _, hw⟩ := DataW.trod_int ht h
 exact ⟨n, by simp [RepAll, RepD], hw⟩
theorem Rd.i64 {t : TypeId} (ht : P.underlying t = some (.int .i64)) : Rd enc P w t (fun n : Int => [I n]) (fun n => -9223372036854775808 ≤ n ∧ n ≤ 9223372036854775807) := fun fuel cs x h => by
 obtain ⟨n, hr, hw⟩ := Rd.int ht fuel cs x h
 refine ⟨n, hr, ?_⟩
 simp only [Lit.wf, Bool.and_eq_true, decide_eq_true_eq] at hw
 have e1 : IntKind.i64.min = -9223372036854775808 := by decide
 have e2 : IntKind.i64.max = 9223372036854775807 := by decide
 rw [e1, e2] at hw
 exact hw
theorem Rd.turn {t : TypeId} {α β : Type} {e : α → List D} {good : α → Prop} {e' : β → List D} {good' : β → Prop} (h : Rd enc P w t e good) (f : α → β) (he : ∀ a, e' (f a) = e a) (hg : ∀ a, good a → good' (f a)) : Rd enc P w t e' good' := fun fuel cs x hx => by
 obtain ⟨a, h1, h2⟩ := h fuel cs x hx
 exact ⟨f a, by rw [he]; exact h1, hg a h2⟩

theorem RepAll.append {S : Nat → Prop} : ∀ {ds : List D} {vs : List Value} {ds' : List D} {vs' : List Value}, RepAll w S ds vs → RepAll w S ds' vs' → RepAll w S (ds ++ ds') (vs ++ vs')
 | [], _, _, _, h, h' => by simp only [RepAll] at h; subst h; exact h'
 | _ :: _, _, _, _, h, h' => by
  simp only [RepAll] at h
  obtain ⟨v, vs', rfl, hr, ht⟩ := h
  simp only [List.cons_append, RepAll]
  exact ⟨v, _, rfl, hr, RepAll.append ht h'⟩
theorem RepCells.append {S : Nat → Prop} {b : Nat} : ∀ {ds ds' : List D} {o : Nat}, RepCells w S ds b o → RepCells w S ds' b (o + ds.length) → RepCells w S (ds ++ ds') b o
 | [], _, _, _, h' => by simpa using h'
 | d :: ds, ds', o, h, h' => by
  simp only [RepCells] at h
  simp only [List.cons_append, RepCells]
  refine ⟨h.1, RepCells.append h.2 ?_⟩
  rw [List.length_cons] at h'
  rw [show o + 1 + ds.length = o + (ds.length + 1) by omega]; exact h'
theorem rdCells_of {S : Nat → Prop} {b o : Nat} {ds : List D} {cs : List Value} (hS : S b) (hr : RepAll w S ds cs) (hc : ∀ i, i < cs.length → w.cell? ⟨b, o + i, none⟩ = cs[i]?) : RepCells w S ds b o := by
 have hl := RepAll.length _ _ hr
 refine RepCells.intro _ _ _ fun k hk => ⟨hS, cs.getD k undef, ?_, RepAll.get _ _ hr k hk⟩
 have hkc : k < cs.length := by omega
 rw [hc k hkc]
 simp [List.getD_eq_getElem?_getD, hkc]

theorem Rd.slice {t el : TypeId} {α : Type} {e : α → List D} {good : α → Prop} (ht : P.underlying t = some (.slice el)) (hpos : 0 < P.cellsOf el) (hel : Rd enc P w el e good) :
  Rd enc P w t (fun xs : List α => [.list xs.length (xs.flatMap e)]) (fun xs => xs.length ≤ maxLen ∧ ∀ a ∈ xs, good a) := fun fuel cs x h => by
 rcases DataW.trod_slice ht h with ⟨rfl, _⟩ | ⟨a, len, cap, elems, rest, n, rfl, rfl, _, _, hlc, hcm, hlen, hread, _, _⟩
 · exact ⟨[], by simp [RepAll, RepD], by simp [maxLen], by simp⟩
 ·
  by_cases h0 : len = 0
  ·
   subst h0
   exact ⟨[], by simp [RepAll, RepD], by simp [maxLen], by simp⟩
  ·
   have hget : ∀ i, i < len → ∃ (cs' : List Value) (y : DataW H × List MemPlace), w.cells? 0 (a.add (i * P.cellsOf el)) (P.cellsOf el) = some cs' ∧ DataW.trod enc P w 0 (fun _ => true) true n el cs' = some y := fun i hi => by
    have := hread i hi
    rw [List.getElem?_eq_getElem (by omega)] at this
    obtain ⟨cs', h1, h2⟩ := Option.bind_eq_some_iff.1 this
    exact ⟨cs', _, h1, h2⟩
   have hspot : ∃ b o, a = ⟨b, o, none⟩ := by
    obtain ⟨cs', _, h1, _⟩ := hget 0 (by omega)
    unfold World.cells? at h1
    rw [if_pos (Nat.zero_le _)] at h1
    have h2 := mapM_some_get h1 0 0 (by simp [hpos])
    have hl := mapM_some_length h1
    rw [List.length_range] at hl
    rw [List.getElem?_eq_getElem (by omega)] at h2
    obtain ⟨b, o, spot⟩ := a
    have hsp : spot = none := by simpa [Addr.add] using World.cell?_spot h2
    subst hsp
    exact ⟨b, o, rfl⟩
   obtain ⟨b, o, rfl⟩ := hspot
   have hone : ∀ i, i < len → ∃ y : α, RepCells w (fun _ => True) (e y) b (o + i * P.cellsOf el) ∧ (e y).length = P.cellsOf el ∧ good y := fun i hi => by
    obtain ⟨cs', y, h1, h2⟩ := hget i hi
    obtain ⟨z, hr, hg⟩ := hel _ _ _ h2
    unfold World.cells? at h1
    rw [if_pos (Nat.zero_le _)] at h1
    have hl := mapM_some_length h1
    rw [List.length_range] at hl
    refine ⟨z, rdCells_of trivial hr fun j hj => ?_, by rw [← RepAll.length _ _ hr, hl], hg⟩
    have h3 := mapM_some_get h1 j j (List.getElem?_range (by omega))
    rw [← h3]
    rw [Go.WideShapes.add_plain, Go.WideShapes.add_plain]
   have hall : ∀ m, m ≤ len → ∃ ys : List α, ys.length = m ∧ RepCells w (fun _ => True) (ys.flatMap e) b o ∧ (ys.flatMap e).length = m * P.cellsOf el ∧ ∀ y ∈ ys, good y := fun m => by
    induction m with
    | zero => exact fun _ => ⟨[], rfl, by simp [RepCells], by simp, by simp⟩
    | succ m ih =>
     intro hm
     obtain ⟨ys, h1, h2, h3, h4⟩ := ih (by omega)
     obtain ⟨y, k1, k2, k3⟩ := hone m (by omega)
     refine ⟨ys ++ [y], by simp [h1], ?_, by simp [h3, k2, Nat.succ_mul], fun z hz => ?_⟩
     ·
      simp only [List.flatMap_append, List.flatMap_cons, List.flatMap_nil, List.append_nil]
      exact RepCells.append h2 (by rw [h3]; exact k1)
     ·
      rcases List.mem_append.1 hz with hz | hz
      · exact h4 z hz
      · simp at hz; subst hz; exact k3
   obtain ⟨ys, h1, h2, _, h4⟩ := hall len (Nat.le_refl _)
   refine ⟨ys, ?_, by omega, h4⟩
   simp only [RepAll, RepD]
   exact ⟨_, [], rfl, ⟨_, cap, by rw [h1], by omega, .inr ⟨b, o, rfl, h2⟩⟩, rfl⟩
theorem Rd.ints {t el : TypeId} (ht : P.underlying t = some (.slice el)) (hel : P.underlying el = some (.int .i64)) (hc : P.cellsOf el = 1) :
  Rd enc P w t (fun xs : List Int => [L xs]) (fun xs => xs.length ≤ maxLen ∧ ∀ n ∈ xs, -9223372036854775808 ≤ n ∧ n ≤ 9223372036854775807) :=
 (Rd.slice ht (by omega) (Rd.i64 hel)).turn id (fun xs => by simp [List.flatMap_singleton' , List.map_eq_flatMap]) fun _ h => h

def RdF {H : Type} (enc : TypeId × Value → H) (P : Program) (w : World) (fs : List (TypeId × Nat)) (o : Nat) {α : Type} (e : α → List D) (good : α → Prop) : Prop :=
 ∀ n (cs : List Value), cs.length = fs.foldl (fun k f => k + P.cellsOf f.1) o → (∀ f ∈ fs, ∃ y, DataW.trod enc P w 0 (fun _ => true) true n f.1 ((cs.drop f.2).take (P.cellsOf f.1)) = some y) → ∃ a : α, RepAll w (fun _ => True) (e a) (cs.drop o) ∧ good a
theorem RdF.nil {o : Nat} : RdF enc P w [] o (fun _ : Unit => []) (fun _ => True) := fun n cs hl _ => ⟨(), by
 have : cs.drop o = [] := by simp only [List.foldl_nil] at hl; rw [← hl]; simp
 rw [this]; simp [RepAll], trivial⟩
theorem RdF.cons {t : TypeId} {fs : List (TypeId × Nat)} {o o' : Nat} {α β : Type} {e : α → List D} {good : α → Prop} {e' : β → List D} {good' : β → Prop} (hc : o' = o + P.cellsOf t) (h1 : Rd enc P w t e good) (h2 : RdF enc P w fs o' e' good') :
  RdF enc P w ((t, o) :: fs) o (fun x : α × β => e x.1 ++ e' x.2) (fun x => good x.1 ∧ good' x.2) := fun n cs hl hf => by
 obtain ⟨y, hy⟩ := hf (t, o) List.mem_cons_self
 obtain ⟨a, ha, ga⟩ := h1 _ _ _ hy
 subst hc
 obtain ⟨b, hb, gb⟩ := h2 n cs (by simpa using hl) fun g hg => hf g (List.mem_cons_of_mem _ hg)
 refine ⟨(a, b), ?_, ga, gb⟩
 have : cs.drop o = (cs.drop o).take (P.cellsOf t) ++ cs.drop (o + P.cellsOf t) := by
  rw [← List.drop_drop, List.take_append_drop]
 rw [this]
 exact RepAll.append ha hb
theorem Rd.struct {t : TypeId} {fs : Array Field} {l : List (TypeId × Nat)} {α : Type} {e : α → List D} {good : α → Prop} (ht : P.underlying t = some (.struct fs)) (hfs : fs.toList.map (fun f => (f.type, f.offset)) = l) (hc : P.cellsOf t = l.foldl (fun k f => k + P.cellsOf f.1) 0) (hf : RdF enc P w l 0 e good) : Rd enc P w t e good := fun fuel cs x h => by
 obtain ⟨xs, n, _, _, hl, hlen, hg⟩ := DataW.trod_struct ht h
 subst hfs
 obtain ⟨a, h1, h2⟩ := hf n cs (by omega) fun f hfm => by
  obtain ⟨f', hf', rfl⟩ := List.mem_map.1 hfm
  obtain ⟨i, hi, rfl⟩ := List.mem_iff_getElem.1 hf'
  rw [Array.length_toList] at hi
  have := hg i fs.toList[i] (by simp [hi])
  rw [List.getElem?_eq_getElem (by omega)] at this
  exact ⟨_, this⟩
 exact ⟨a, by simpa using h1, h2⟩

theorem Rd.array {t el : TypeId} {n : Nat} {l : List (TypeId × Nat)} {α : Type} {e : α → List D} {good : α → Prop} (ht : P.underlying t = some (.array n el)) (hfs : (List.range n).map (fun i => (el, i * P.cellsOf el)) = l) (hc : P.cellsOf t = l.foldl (fun k f => k + P.cellsOf f.1) 0) (hf : RdF enc P w l 0 e good) : Rd enc P w t e good := fun fuel cs x h => by
 obtain ⟨xs, m, _, _, hl, hlen, hg⟩ := DataW.trod_array ht h
 subst hfs
 obtain ⟨a, h1, h2⟩ := hf m cs (by omega) fun f hfm => by
  obtain ⟨i, hi, rfl⟩ := List.mem_map.1 hfm
  have hin : i < n := List.mem_range.1 hi
  have := hg i hin
  rw [List.getElem?_eq_getElem (by omega)] at this
  exact ⟨_, this⟩
 exact ⟨a, by simpa using h1, h2⟩
theorem is_agg_struct {t : TypeId} {fs : Array Field} (ht : P.underlying t = some (.struct fs)) (b0 : Nat) (v : Value) (h : Value.okWide P w .any b0 t v) : ∃ cs, v = .agg cs := by
 simp only [Value.okWide, ht] at h
 obtain ⟨cs, h, _⟩ := h
 exact ⟨cs, h⟩
theorem is_agg_array {t e : TypeId} {n : Nat} (ht : P.underlying t = some (.array n e)) (b0 : Nat) (v : Value) (h : Value.okWide P w .any b0 t v) : ∃ cs, v = .agg cs := by
 simp only [Value.okWide, ht] at h
 obtain ⟨cs, h, _⟩ := h
 exact ⟨cs, h⟩
theorem Rd.agg {t : TypeId} {α : Type} {e : α → List D} {good : α → Prop} (hr : Rd enc P w t e good) {b0 : Nat} {v : Value} {d : DataW H} {ps : List MemPlace} (hd : DataW.Trod enc P w 0 (fun _ => true) true t v d ps)
  (hval : Value.okWide P w .any b0 t v) (hs : ∀ v, Value.okWide P w .any b0 t v → ∃ cs, v = .agg cs) : ∃ a, RepD w (fun _ => True) (.agg (e a)) v ∧ good a := by
 obtain ⟨n, hn⟩ := hd
 obtain ⟨a, h1, h2⟩ := hr _ _ _ hn
 obtain ⟨cs, rfl⟩ := hs v hval
 refine ⟨a, ?_, h2⟩
 simp only [RepD]
 exact ⟨cs.toList, by simp, by simpa [Value.cells] using h1⟩
end

theorem trodAll_below {H : Type} {enc : TypeId × Value → H} {P : Program} {W W' : World} (hl : laidOutB P = true) (hbelow : Below W.heap.size W W') : ∀ {ts : List TypeId} {vs : List Value} {ds : List (DataW H)} {p : List MemPlace}, (∀ t ∈ ts, P.readableRec t = true ∧ t < P.types.size) →
  DataW.TrodAll enc P W 0 (fun _ => true) true ts vs ds p → (∀ x ∈ p, x.block < W.heap.size) → DataW.TrodAll enc P W' 0 (fun b => decide (b < W.heap.size)) true ts vs ds p
 | [], _, _, _, _, hA, _ => by obtain ⟨rfl, rfl, rfl⟩ := trodAll_nil hA; exact trodAll_mk0
 | t :: ts, _, _, _, hts, hA, hlt => by
  obtain ⟨v, vs', d, ds', p1, q1, rfl, rfl, rfl, hd, ht⟩ := trodAll_cons hA
  have ht0 := hts t List.mem_cons_self
  exact ⟨p1, q1, Below.trod hl ht0.1 ht0.2 hd hbelow (fun x hx => hlt x (List.mem_append_left _ hx)), trodAll_below hl hbelow (fun t' h' => hts t' (List.mem_cons_of_mem _ h')) ht (fun x hx => hlt x (List.mem_append_right _ hx)), rfl⟩
theorem law_post {H : Type} {enc : TypeId × Value → H} {P : Program} {f : FuncId} {fn : Func} {s : ChangeSpec} {W : World} {args : Array Value} {ds gs : List (DataW H)} {before : List MemPlace} {es : List D} {bt : TypeId}
  (hl : laidOutB P = true) (hts : ∀ t ∈ fn.params.toList, P.readableRec t = true ∧ t < P.types.size) (hb : fn.resultTypes = #[bt]) (hbt : P.underlying bt = some .bool) (hv : s.vars = [])
  (hs : ∀ gs' : List (DataW H), gs' = [] → (s.fn H (ds ++ gs')).results = [.lit (.bool true)] ∧ (s.fn H (ds ++ gs')).args = ds ∧ (s.fn H (ds ++ gs')).vars = [])
  (hW : DataW.Whole enc P fn.params.toList s.vars false W args.toList ds gs before) (hc : CallOK P f es (.d (Bo true)) []) (hr : RepAll W (fun _ => True) es args.toList) (hgi : GI W.heap.size W (fun _ => True) := by exact GI.nil rfl) :
  Calls P f args W fun e W' => ∃ v, e = .returned v ∧ s.post enc P fn false true false false W args v W' := by
 have hlt := hW.lt
 have hW0 := hW
 obtain ⟨p, q, hA, hV, rfl, hz, hn⟩ := hW
 rw [hv] at hV
 obtain ⟨rfl, rfl⟩ := trodVars_none hV
 have hcall := hc.2 W (fun _ => True) args.toList hgi hr
 rw [Array.toArray_toList] at hcall
 refine hcall.mono fun e W' ⟨v, φ, he, hres⟩ => ⟨v, he, ?_⟩
 have hbelow := hres.below
 have hv' : v = .bool true := by have := hres.rep; simpa [RepV, RepD] using this
 subst hv'
 obtain ⟨h1, h2, h3⟩ := hs [] rfl
 have hargs : DataW.TrodAll enc P W' 0 (fun b => decide (b < W.heap.size)) true fn.params.toList args.toList ds p := by
  have hlt' : ∀ x ∈ p, x.block < W.heap.size := fun x hx => hlt x (by simpa using hx)
  exact trodAll_below hl hbelow hts hA hlt'
 refine ⟨ds, [], p ++ [], [], p, [], hW0, ?_, by rw [h2]; exact hargs, by rw [hv, h3]; rfl, World.keptBut_mono (fun x hx => ⟨hx, .inr (.inl (by simpa using hx))⟩) (hbelow.frame _), fun h => by cases h⟩
 rw [h1, hb]
 exact trodAll_mk1 (shut_bool hbt _)
end Go.PW
