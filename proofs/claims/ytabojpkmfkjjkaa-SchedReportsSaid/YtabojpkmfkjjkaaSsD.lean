/-
  slices.Delete at a slice of structs of nine cells, walked by the kit's means.
-/
import Derived.Test.YtabojpkmfkjjkaaSsTy
import Derived.Test.YtabojpkmfkjjkaaSsH
import Derived.Test.YtabojpkmfkjjkaaPwF5
import Derived.Shelf.RegionOpenPlain
import Derived.WalkKit
import Derived.Deep.LoopGhost
import Derived.Deep.RegionLaw
import Derived.Lib.Walk
import Derived.Lib.SliceRun
import Derived.Deep.MidRow
set_option linter.all false
namespace Go.Proofs.Ytabojpkmfkjjkaa
open Go.PW Go.RowKit Go.Lib Go.Proofs

def zb27 : List Value := [.string ⟨#[]⟩, .int .i64 0, .int .i64 0, .int .i64 0, .int .i64 0, .int .i64 0, .int .i64 0, .int .i64 0, .int .i64 0]
/-- The zero cells of so many elements. -/
def o9 (n : Nat) : List Value := (Builtin.zeroCells zb27.toArray n).toList
theorem zeros27_length (n : Nat) : (o9 n).length = n * 9 := by simp [o9, Builtin.zeroCells, zb27]
theorem zeros27_one (n : Nat) : ∀ v ∈ o9 n, v.oneCell' = true := by
  intro v hv
  simp only [o9, Builtin.zeroCells, Array.toList_map, List.mem_map] at hv
  obtain ⟨k, _, rfl⟩ := hv
  have : k % zb27.toArray.size < 9 := Nat.mod_lt _ (by decide)
  generalize k % zb27.toArray.size = q at this
  match q, this with
  | 0, _ => rfl
  | 1, _ => rfl
  | 2, _ => rfl
  | 3, _ => rfl
  | 4, _ => rfl
  | 5, _ => rfl
  | 6, _ => rfl
  | 7, _ => rfl
  | 8, _ => rfl
theorem clear27 (w : World) (ty : TypeId) (b o n c : Nat) (hn : 0 < n) (hc : ∀ j, j < n * 9 → (w.cell? ⟨b, o + j, none⟩).isSome = true) (hf : ∀ j, j < n * 9 → w.frozen? ⟨b, o + j, none⟩ = false) :
    (Builtin.clear_ #[25] ty #[.slice (some ⟨b, o, none⟩) n c]).run Try.prog w = .ok (.tuple #[]) (w.setCells b o (o9 n)) := by
  obtain ⟨i, zv, hi, hs, hb, hz, hzc, hzs⟩ := w4 ty27
  have hzc' : zv.cells = zb27.toArray := by
    apply Array.toList_inj.1; rw [hzc]; rfl
  have hst := run_storeCells_cells (P := Try.prog) b o (o9 n) 0 w (by rw [zeros27_length]; simpa using hc) (by rw [zeros27_length]; simpa using hf) (zeros27_one n)
  simp only [Nat.add_zero] at hst
  obtain ⟨m, rfl⟩ : ∃ m, n = m + 1 := ⟨n - 1, by omega⟩
  have hu : Try.prog.underlying 25 = some (.slice 27) := by
    have := se25; unfold t3 at this; split at this
    · rename_i e h; cases this; exact h
    · cases this
  have hv : ∀ w, (zeroValue 27).run Try.prog w = .ok zv w := fun w => by simp [zeroValue, typeInfo, hi, hz]
  simp [Builtin.clear_, run_underlying hu, hv, hzc', o9] at hst ⊢
  simp [hst]
set_option maxHeartbeats 4000000 in
set_option maxRecDepth 1000000 in
theorem delete27 (w : World) (g n cap i j : Nat) (cs : List Value) (hl : cs.length = n * 9) (hn : n ≤ cap) (hm : cap ≤ 9223372036854775807) (h1 : ∀ u ∈ cs, u.oneCell' = true) (hlt : i < j) (hj : j ≤ n)
    (hc : ∀ t u, cs[t]? = some u → w.cell? ⟨g, t, none⟩ = some u ∧ w.frozen? ⟨g, t, none⟩ = false) :
    Calls Try.prog 95 #[.slice (some ⟨g, 0, none⟩) n cap, .int .i64 i, .int .i64 j] w fun e w' => e = .returned (.slice (some ⟨g, 0, none⟩) (n - (j - i)) cap) ∧
      w' = (w.drew.setCells g (i * 9) (cs.drop (j * 9))).setCells g ((i + (n - j)) * 9) (o9 (j - i)) := by
  have n9 := n9
  obtain ⟨i0, zv, hi0, hz1, hz2, hz3, hz4⟩ := tyOf_spec ty27
  have t25 : Try.prog.underlying 25 = some (.slice 27) := by
    have := se25; unfold t3 at this; split at this
    · rename_i e h; cases this; exact h
    · cases this
  obtain ⟨news, hnews⟩ : ∃ news, news = cs.drop (j * 9) := ⟨_, rfl⟩
  have hlen : news.length = (n - j) * 9 := by rw [hnews]; simp [hl]; omega
  have hget : ∀ t u, news[t]? = some u → w.cell? ⟨g, j * 9 + t, none⟩ = some u := by
    intro t u hu
    rw [hnews, List.getElem?_drop] at hu
    exact (hc _ _ hu).1
  obtain ⟨A, hA, hsrc⟩ : ∃ A : Addr, (if cap = j then some (⟨g, 0, none⟩ : Addr) else some ⟨g, j * 9, none⟩) = some A ∧ Hid (∀ t u, news[t]? = some u → w.drew.cell? (A.add t) = some u) := by
    by_cases h : cap = j
    · refine ⟨⟨g, 0, none⟩, by simp [h], fun t u hu => ?_⟩
      have h0 : news.length = 0 := by rw [hlen]; omega
      rw [List.length_eq_zero_iff.1 h0] at hu
      simp at hu
    · refine ⟨⟨g, j * 9, none⟩, by simp [h], fun t u hu => ?_⟩
      rw [Addr.add_lit]
      exact hget t u hu
  have s1 : Hid (news.length = (n - j) * 9) := hlen
  have s2 : Hid (∀ u ∈ news, u.oneCell' = true) := fun u hu => h1 u (by rw [hnews] at hu; exact List.mem_of_mem_drop hu)
  have hall : ∀ t, t < n * 9 → (w.cell? ⟨g, t, none⟩).isSome = true ∧ w.frozen? ⟨g, t, none⟩ = false := by
    intro t ht
    have := hc t (cs[t]'(by omega)) (List.getElem?_eq_getElem _)
    exact ⟨by rw [this.1]; rfl, this.2⟩
  have s3 : Hid (∀ t, t < news.length → (w.drew.cell? ⟨g, 0 + i * 9 + t, none⟩).isSome = true ∧ w.drew.frozen? ⟨g, 0 + i * 9 + t, none⟩ = false) := by
    intro t ht
    rw [hlen] at ht
    rw [Nat.zero_add]
    exact hall (i * 9 + t) (by omega)
  obtain ⟨W1, hW1⟩ : ∃ W1, W1 = w.drew.setCells g (0 + i * 9) news := ⟨_, rfl⟩
  have hall1 : ∀ t, t < n * 9 → (W1.cell? ⟨g, t, none⟩).isSome = true ∧ W1.frozen? ⟨g, t, none⟩ = false := by
    intro t ht
    rw [hW1]
    refine ⟨World.isSome_setCells g news _ _ _ (hall t ht).1, ?_⟩
    rw [World.frozen?_setCells]; exact (hall t ht).2
  have hcl : ∀ ty, (Builtin.clear_ #[25] ty #[.slice (some ⟨g, (i + (n - j)) * 9, none⟩) (n - (i + (n - j))) (cap - (i + (n - j)))]).run Try.prog W1 = .ok (.tuple #[]) (W1.setCells g ((i + (n - j)) * 9) (o9 (n - (i + (n - j))))) :=
    fun ty => clear27 W1 ty g ((i + (n - j)) * 9) _ _ (by omega) (fun t ht => (hall1 _ (by omega)).1) (fun t ht => (hall1 _ (by omega)).2)
  have hW : Hid (W1 = w.drew.setCells g (0 + i * 9) news) := hW1
  have X : Aside (news = cs.drop (j * 9)) := hnews
  have X1 : Aside (W1 = w.drew.setCells g (0 + i * 9) news) := hW1
  have hic : i ≤ cap := by omega
  have hjc : j ≤ cap := by omega
  clear hW1 hall hall1 hget hnews hlen hc h1 hl
  go_enter Try.func95, Try.ntmps95
  go_wp2_with fail
  go_region_law_o (refine step_append_room rfl (.tmp 22) (.tmp 25) 25 rfl 27 i0 9 t25 hi0 hz1 g 0 i cap (by simp [Act.eval, Act.put]) A (n - j) (cap - j) news (by simp [Act.eval, Act.put]) s1.out hsrc.out s2.out (by omega) s3.out ?_; rw [← hW.out])
  go_wp2
  go_ret
  refine ⟨by rw [show n - (j - i) = i + (n - j) by omega]; rfl, ?_⟩
  rw [X1.out, X.out, Nat.zero_add, show n - (i + (n - j)) = j - i by omega]
theorem setCell_row (w : World) (g o : Nat) (v : Value) (cur : Array Value) (e : TypeId) (fr : Nat × Nat) (h : w.heap[g]? = some (.cells cur e fr)) : w.setCell ⟨g, o, none⟩ v = w.setRow g (cur.setIfInBounds o v) := by
  have hlt : g < w.heap.size := heap_lt h
  have hv : w.heap[g] = .cells cur e fr := (Array.getElem?_eq_some_iff.1 h).2
  unfold World.setCell World.setRow
  congr 1
  apply Array.ext (by simp)
  intro k h1 h2
  simp only [Array.getElem_modify]
  split
  · rename_i hk; subst hk; simp [hv]
  · rfl
theorem setRow_setRow (w : World) (g : Nat) (a b : Array Value) : (w.setRow g a).setRow g b = w.setRow g b := by
  unfold World.setRow
  congr 1
  apply Array.ext (by simp)
  intro k h1 h2
  simp only [Array.getElem_modify]
  split
  · rename_i hk; subst hk
    rcases w.heap[g]'(by simpa using h2) <;> rfl
  · rfl
theorem setRow_self (w : World) (g : Nat) (cur : Array Value) (e : TypeId) (fr : Nat × Nat) (h : w.heap[g]? = some (.cells cur e fr)) : w.setRow g cur = w := by
  have hv : ∀ hh : g < w.heap.size, w.heap[g] = .cells cur e fr := fun _ => (Array.getElem?_eq_some_iff.1 h).2
  have : (w.setRow g cur).heap = w.heap := by
    apply Array.ext (by simp)
    intro k h1 h2
    have e1 : (w.setRow g cur).heap[k]? = w.heap[k]? := by
      by_cases hk : k = g
      · subst hk; rw [setRow_heap w k cur cur e fr h, h]
      · exact setRow_other w g k cur hk
    rw [Array.getElem?_eq_getElem h1, Array.getElem?_eq_getElem h2] at e1
    exact Option.some.inj e1
  show ({ w with heap := (w.setRow g cur).heap } : World) = w
  rw [this]
theorem setCells_row (g : Nat) (e : TypeId) (fr : Nat × Nat) : ∀ (vs : List Value) (o : Nat) (w : World) (cur : Array Value), w.heap[g]? = some (.cells cur e fr) → o + vs.length ≤ cur.size →
    w.setCells g o vs = w.setRow g (cur.toList.take o ++ vs ++ cur.toList.drop (o + vs.length)).toArray
  | [], o, w, cur, h, hl => by
    rw [World.setCells]
    have : (cur.toList.take o ++ [] ++ cur.toList.drop (o + ([] : List Value).length)).toArray = cur := by simp
    rw [this, setRow_self w g cur e fr h]
  | v :: r, o, w, cur, h, hl => by
    simp only [List.length_cons] at hl
    rw [World.setCells, setCell_row w g o v cur e fr h, setCells_row g e fr r (o + 1) _ _ (setRow_heap w g cur _ e fr h) (by simp; omega), setRow_setRow]
    congr 1
    apply Array.toList_inj.1
    have ho : o < cur.toList.length := by simp; omega
    simp only [Array.toList_setIfInBounds, List.length_cons]
    rw [List.take_set, List.take_succ_eq_append_getElem ho, List.drop_set_of_lt (by omega)]
    simp [List.set_append, List.length_take, Nat.min_eq_left (Nat.le_of_lt (by simpa using ho))]
    rw [show o + 1 + r.length = o + (r.length + 1) by omega]
theorem RepVs_dropN {w : World} {S : Nat → Prop} {φ : Nat → Option Nat} {k : Nat} : ∀ (m : Nat) {ds : List V} {vs : List Value}, RepVs w S φ k ds vs → RepVs w S φ k (ds.drop m) (vs.drop m)
  | 0, _, _, h => by simpa using h
  | m + 1, [], vs, h => by
    simp only [RepVs] at h; subst h; simp [RepVs]
  | m + 1, d :: ds, vs, h => by
    simp only [RepVs] at h
    obtain ⟨v, vs', rfl, _, h2⟩ := h
    simpa using RepVs_dropN m h2
theorem slices_Delete_callM {objs : List Ob} {b n i j : Nat} {cells : List V} (hob : objs[b]? = some ⟨cells, 27⟩) (hlen : cells.length = n * 9) (h1 : cells.all oneV = true) (hij : i < j) (hj : j ≤ n) :
    CallM Try.prog 95 [.own b 0 n 9, .d (I i), .d (I j)] objs (.own b 0 (n - (j - i)) 9) (objs.set b ⟨cells.take (i * 9) ++ cells.drop (j * 9), 27⟩) [] := by
  refine ⟨fun args w => Try.call95 args w, fun B w0 S0 φ w us gs hr hargs => ?_⟩
  simp only [RepVs] at hargs
  obtain ⟨v1, us1, rfl, hv1, v2, us2, rfl, hv2, v3, us3, rfl, hv3, rfl⟩ := hargs
  simp only [RepV, RepD, I] at hv1 hv2 hv3
  subst hv2 hv3
  obtain ⟨hb, hv1⟩ := hv1
  rcases hv1 with ⟨a, rfl, hn0, _⟩ | ⟨g, cap, cur, e, hg, rfl, hn, hm, hh, hsz⟩
  · omega
  have hr1 : Rel B w0 S0 φ (bare objs (objs.length, gs)) noAct w.drew := hr.grow0 (Grows.drew w)
  have hhd : w.drew.heap[g]? = some (.cells cur e (0, 0)) := hh
  have hob1 : (bare objs (objs.length, gs)).objs[b]? = some ⟨cells, 27⟩ := hob
  rcases hr1.objs b _ hob1 with ⟨h, _⟩ | ⟨g', cur', vals, rest, hg', hh', hc, hv⟩
  · rw [hg] at h; cases h
  rw [hg] at hg'; cases hg'
  rw [hhd] at hh'; cases hh'
  have hvl : vals.length = n * 9 := (RepVs.length _ _ hv).trans hlen
  have hone : ∀ u ∈ vals, u.oneCell' = true := RepVs.allOne hv h1
  have hcs : cur.size = vals.length + rest.length := by
    have := congrArg List.length hc
    simpa using this
  have hcell : ∀ t u, vals[t]? = some u → w.cell? ⟨g, t, none⟩ = some u ∧ w.frozen? ⟨g, t, none⟩ = false := by
    intro t u hu
    have hlt : t < vals.length := (List.getElem?_eq_some_iff.1 hu).1
    have hcu : cur[t]? = some u := by
      rw [← Array.getElem?_toList, hc, List.getElem?_append_left hlt]; exact hu
    simp [World.cell?, World.frozen?, hh, hcu]
  refine (delete27 w g n cap i j vals hvl hn (Nat.le_trans hm (by decide)) hone hij hj hcell).mono ?_
  rintro e' w' ⟨rfl, rfl⟩
  have hdl : (vals.drop (j * 9)).length = (n - j) * 9 := by simp [hvl]; omega
  have hz : (o9 (j - i)).length = (j - i) * 9 := zeros27_length _
  have hr2 := hr1.store (off := i * 9) (es := cells.drop (j * 9)) (us := vals.drop (j * 9)) hob1 hg hhd hc hv (RepVs_dropN (j * 9) hv) (by simp [hlen]; omega)
  have e1 := setCells_row g 27 (0, 0) (vals.drop (j * 9)) (i * 9) w.drew cur hhd (by rw [hdl]; omega)
  rw [← e1] at hr2
  have hh2 : (w.drew.setCells g (i * 9) (vals.drop (j * 9))).heap[g]? = some (.cells (cur.toList.take (i * 9) ++ vals.drop (j * 9) ++ cur.toList.drop (i * 9 + (vals.drop (j * 9)).length)).toArray 27 (0, 0)) := by
    rw [e1]; exact setRow_heap w.drew g cur _ 27 (0, 0) hhd
  have hs2 : (cur.toList.take (i * 9) ++ vals.drop (j * 9) ++ cur.toList.drop (i * 9 + (vals.drop (j * 9)).length)).toArray.size = cur.size := by simp [hvl]; omega
  have hob2 : (objs.set b ⟨PW.setMany cells (i * 9) (cells.drop (j * 9)), 27⟩)[b]? = some ⟨PW.setMany cells (i * 9) (cells.drop (j * 9)), 27⟩ := List.getElem?_set_self hb
  generalize (cur.toList.take (i * 9) ++ vals.drop (j * 9) ++ cur.toList.drop (i * 9 + (vals.drop (j * 9)).length)).toArray = cur2 at hh2 hs2
  rcases hr2.objs b _ hob2 with ⟨h, _⟩ | ⟨g', cur2', vals2, rest2, hg2, hh2', hc2, hv2⟩
  · rw [hg] at h; cases h
  rw [hg] at hg2; cases hg2
  rw [hh2] at hh2'; cases hh2'
  have hr3 := hr2.store (off := (i + (n - j)) * 9) (es := (o9 (j - i)).map fun x => .d (.val x)) (us := o9 (j - i)) hob2 hg hh2 hc2 hv2 (RepVs.vals _) (by simp [hz, q8, hlen]; omega)
  have e2 := setCells_row g 27 (0, 0) (o9 (j - i)) ((i + (n - j)) * 9) _ cur2 hh2 (by rw [hz, hs2]; omega)
  rw [← e2] at hr3
  have hh3 : ((w.drew.setCells g (i * 9) (vals.drop (j * 9))).setCells g ((i + (n - j)) * 9) (o9 (j - i))).heap[g]? = some (.cells (cur2.toList.take ((i + (n - j)) * 9) ++ o9 (j - i) ++ cur2.toList.drop ((i + (n - j)) * 9 + (o9 (j - i)).length)).toArray 27 (0, 0)) := by
    rw [e2]; exact setRow_heap _ g cur2 _ 27 (0, 0) hh2
  have hs3 : (cur2.toList.take ((i + (n - j)) * 9) ++ o9 (j - i) ++ cur2.toList.drop ((i + (n - j)) * 9 + (o9 (j - i)).length)).toArray.size = cur2.size := by
    simp [hz]; omega
  have hr4 := hr3.shrink b ((i + (n - j)) * 9)
  have hko : KeepsOthers w ((w.drew.setCells g (i * 9) (vals.drop (j * 9))).setCells g ((i + (n - j)) * 9) (o9 (j - i))) := by
    rw [e2]
    refine KeepsOthers.trans (KeepsOthers.trans (Grows.drew w).others ?_) (t5 _ hh2)
    rw [e1]; exact t5 _ hhd
  have hcut : (PW.setMany (PW.setMany cells (i * 9) (cells.drop (j * 9))) ((i + (n - j)) * 9) ((o9 (j - i)).map fun x => .d (.val x))).take ((i + (n - j)) * 9) = cells.take (i * 9) ++ cells.drop (j * 9) := by
    rw [setMany_eq _ _ _ (by simp [hz, q8, hlen]; omega), List.append_assoc, List.take_append_of_le_length (by simp [q8, hlen]; omega), List.take_take, Nat.min_self,
      setMany_eq _ _ _ (by simp [hlen]; omega), List.take_append_of_le_length (by simp [hlen]; omega), List.take_of_length_le (by simp [hlen]; omega)]
  have henv : (Env.shrink { ({ (bare objs (objs.length, gs)) with objs := (bare objs (objs.length, gs)).objs.set b ⟨PW.setMany cells (i * 9) (cells.drop (j * 9)), 27⟩ } : Env) with
      objs := (objs.set b ⟨PW.setMany cells (i * 9) (cells.drop (j * 9)), 27⟩).set b ⟨PW.setMany (PW.setMany cells (i * 9) (cells.drop (j * 9))) ((i + (n - j)) * 9) ((o9 (j - i)).map fun x => .d (.val x)), 27⟩ } b ((i + (n - j)) * 9)) =
      bare (objs.set b ⟨cells.take (i * 9) ++ cells.drop (j * 9), 27⟩) (objs.length, gs) := by
    simp only [Env.shrink, List.set_set, List.getElem?_set_self hb, hcut]
    rfl
  refine ⟨_, φ, rfl, hko, ?_, ?_⟩
  · have : (gs.map fun x => (p7 [] x.1, x.2)) = gs := by
      conv => rhs; rw [← List.map_id gs]
      exact List.map_congr_left fun x _ => rfl
    rw [this]
    have h := henv ▸ hr4
    simpa using h
  · simp only [RepV, List.length_set]
    exact ⟨hb, .inr ⟨g, cap, _, 27, hg, rfl, by omega, hm, hh3, by rw [hs3, hs2]; exact hsz⟩⟩
theorem flat_take {α β : Type} (F : α → List β) (k : Nat) (hF : ∀ x, (F x).length = k) : ∀ (s : List α) (i : Nat), (s.flatMap F).take (i * k) = (s.take i).flatMap F
  | [], i => by simp
  | x :: s, 0 => by simp
  | x :: s, i + 1 => by
    simp only [List.flatMap_cons, List.take_succ_cons]
    rw [List.take_append, hF, List.take_of_length_le (by rw [hF, Nat.add_mul]; omega), show (i + 1) * k - k = i * k by rw [Nat.add_mul]; omega, flat_take F k hF s i]
theorem flat_drop {α β : Type} (F : α → List β) (k : Nat) (hF : ∀ x, (F x).length = k) : ∀ (s : List α) (i : Nat), (s.flatMap F).drop (i * k) = (s.drop i).flatMap F
  | [], i => by simp
  | x :: s, 0 => by simp
  | x :: s, i + 1 => by
    simp only [List.flatMap_cons, List.drop_succ_cons]
    rw [List.drop_append, hF, List.drop_eq_nil_of_le (by rw [hF, Nat.add_mul]; omega), show (i + 1) * k - k = i * k by rw [Nat.add_mul]; omega, flat_drop F k hF s i, List.nil_append]
theorem flat_len {α β : Type} (F : α → List β) (k : Nat) (hF : ∀ x, (F x).length = k) : ∀ (s : List α), (s.flatMap F).length = s.length * k
  | [] => by simp
  | x :: s => by simp only [List.flatMap_cons, List.length_append, List.length_cons, hF, flat_len F k hF s, Nat.add_mul]; omega
/-- slices.Delete of elements of nine cells, as the walks use it. -/
theorem slices_Delete_bb {α : Type} (F : α → List D) (hF : ∀ x, (F x).length = 9) (h1 : ∀ x, ((F x).map V.d).all oneV = true) {objs objs' : List Ob} {b : Nat} {s : List α} {i j : Int} (hob : objs[b]? = some ⟨(s.flatMap F).map .d, 27⟩) (h : 0 ≤ i ∧ i < j ∧ j ≤ (s.length : Int))
    (hobjs : objs.set b ⟨((s.take i.toNat ++ s.drop j.toNat).flatMap F).map .d, 27⟩ = objs') : CallM Try.prog 95 [.own b 0 s.length 9, .d (I i), .d (I j)] objs (.own b 0 (s.take i.toNat ++ s.drop j.toNat).length 9) objs' [] := by
  obtain ⟨a, rfl⟩ := Int.eq_ofNat_of_zero_le h.1
  obtain ⟨c, rfl⟩ := Int.eq_ofNat_of_zero_le (show 0 ≤ j by omega)
  have hac : a < c := by omega
  have hcs : c ≤ s.length := by omega
  have hone : ((s.flatMap F).map V.d).all oneV = true := by
    clear hob hobjs h hcs
    induction s with
    | nil => rfl
    | cons x s ih => simp only [List.flatMap_cons, List.map_append, List.all_append, h1, ih, Bool.and_self]
  have key := slices_Delete_callM (objs := objs) (b := b) (n := s.length) (i := a) (j := c) hob (by rw [List.length_map, flat_len F 9 hF]) hone hac hcs
  have hc : ((s.flatMap F).map V.d).take (a * 9) ++ ((s.flatMap F).map V.d).drop (c * 9) = ((s.take a ++ s.drop c).flatMap F).map V.d := by
    rw [← List.map_take, ← List.map_drop, flat_take F 9 hF, flat_drop F 9 hF, List.flatMap_append, List.map_append]
  rw [hc] at key
  simp only [Int.toNat_natCast] at hobjs ⊢
  rw [← hobjs, show (s.take a ++ s.drop c).length = s.length - (c - a) by simp; omega]
  exact key
/-- A list that is frozen right behind an append. -/
theorem list_snocI (x : List Int) (i : Int) : D.list (x.length + 1) (Go.PW.seg (x.map I ++ [I i]) 0 (x.length + 1)) = L (x ++ [i]) := by
  have h : (x.map I ++ [I i]) = (x ++ [i]).map I := by simp
  have hl : x.length + 1 = (x ++ [i]).length := by simp
  rw [h, hl]
  simp [Go.PW.seg, List.take_of_length_le]
theorem list_appF {α : Type} (F : α → List D) (k : Nat) (hF : ∀ x, (F x).length = k) (a b : List α) :
    D.list (a.length + b.length) (Go.PW.seg (a.flatMap F ++ b.flatMap F) 0 ((a.length + b.length) * k)) = D.list (a ++ b).length ((a ++ b).flatMap F) := by
  have e : a.flatMap F ++ b.flatMap F = (a ++ b).flatMap F := by rw [← List.flatMap_append]
  have hl : a.length + b.length = (a ++ b).length := by simp
  rw [e, hl]
  congr 1
  exact seg_flat k F hF _
theorem list_snocF {α : Type} (F : α → List D) (k : Nat) (hF : ∀ x, (F x).length = k) (a : List α) (x : α) :
    D.list (a.length + 1) (Go.PW.seg (a.flatMap F ++ [x].flatMap F) 0 ((a.length + 1) * k)) = D.list (a ++ [x]).length ((a ++ [x]).flatMap F) := list_appF F k hF a [x]
end Go.Proofs.Ytabojpkmfkjjkaa
