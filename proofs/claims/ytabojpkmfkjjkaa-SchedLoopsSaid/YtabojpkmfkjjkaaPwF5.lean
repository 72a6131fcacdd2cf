/-
 A block that nobody needs is taken out of the middle. For every program.
-/
import Derived.Test.YtabojpkmfkjjkaaPwF4
set_option linter.all false
namespace Go.PW
open Go.RowKit

def V.del (d : Nat) : V → V
 | .own j off n sz => if j = d then .dead else .own (if d < j then j - 1 else j) off n sz
 | .ptr j off => if j = d then .dead else .ptr (if d < j then j - 1 else j) off
 | .slf j => if j = d then .dead else .slf (if d < j then j - 1 else j)
 | .agg cells => .agg (dels d cells)
 | .clo f caps => .clo f (dels d caps)
 | .tup vs => .tup (dels d vs)
 | .guarded c r => .guarded c (r.del d)
 | v => v
where
 dels (d : Nat) : List V → List V
 | [] => []
 | v :: vs => v.del d :: dels d vs

theorem V.dels_eq (d : Nat) : ∀ l, V.del.dels d l = l.map (V.del d)
 | [] => rfl
 | v :: vs => by simp [V.del.dels, V.dels_eq d vs]

section
variable {w : World} {S S' : Nat → Prop} {φ φ' : Nat → Option Nat} {m m' d : Nat}
mutual
theorem RepV.del (hk : Keeps w S w S') (hm : ∀ i, i < m → i ≠ d → (if d < i then i - 1 else i) < m' ∧ φ' (if d < i then i - 1 else i) = φ i) : ∀ (x : V) (v : Value), RepV w S φ m x v → RepV w S' φ' m' (x.del d) v
 | .d x, v, hv => by simp only [V.del, RepV] at hv ⊢; exact RepD.mono hk x v hv
 | .own i off n sz, v, hv => by
  simp only [V.del]
  by_cases h : i = d
  · rw [if_pos h]; simp [RepV]
  ·
   rw [if_neg h]
   simp only [RepV] at hv ⊢
   obtain ⟨h1, h2⟩ := hm i hv.1 h
   exact ⟨h1, by rw [h2]; exact hv.2⟩
 | .ptr i off, v, hv => by
  simp only [V.del]
  by_cases h : i = d
  · rw [if_pos h]; simp [RepV]
  ·
   rw [if_neg h]
   simp only [RepV] at hv ⊢
   obtain ⟨h1, h2⟩ := hm i hv.1 h
   exact ⟨h1, by rw [h2]; exact hv.2⟩
 | .agg cells, v, hv => by
  simp only [V.del, RepV] at hv ⊢
  obtain ⟨vs, rfl, hr⟩ := hv
  exact ⟨vs, rfl, RepVs.del hk hm cells vs hr⟩
 | .clo f caps, v, hv => by
  simp only [V.del, RepV] at hv ⊢
  obtain ⟨vs, rfl, hr⟩ := hv
  exact ⟨vs, rfl, RepVs.del hk hm caps vs hr⟩
 | .tup ds, v, hv => by
  simp only [V.del, RepV] at hv ⊢
  obtain ⟨vs, rfl, hr⟩ := hv
  exact ⟨vs, rfl, RepVs.del hk hm ds vs hr⟩
 | .guarded c r, v, hv => by simp only [V.del, RepV] at hv ⊢; exact ⟨fun hc => RepV.del hk hm r v (hv.1 hc), hv.2⟩
 | .dead, _, _ => by simp [V.del, RepV]
 | .emp, _, hv => by simpa only [V.del, RepV] using hv
 | .slf i, v, hv => by
  simp only [V.del]
  by_cases h : i = d
  · rw [if_pos h]; simp [RepV]
  ·
   rw [if_neg h]
   simp only [RepV] at hv ⊢
   obtain ⟨h1, h2⟩ := hm i hv.1 h
   exact ⟨h1, by rw [h2]; exact hv.2⟩
theorem RepVs.del (hk : Keeps w S w S') (hm : ∀ i, i < m → i ≠ d → (if d < i then i - 1 else i) < m' ∧ φ' (if d < i then i - 1 else i) = φ i) : ∀ (ds : List V) (vs : List Value), RepVs w S φ m ds vs → RepVs w S' φ' m' (V.del.dels d ds) vs
 | [], vs, hv => by simpa [RepVs, V.del.dels] using hv
 | x :: ds, vs, hv => by
  simp only [RepVs, V.del.dels] at hv ⊢
  obtain ⟨v, vs', rfl, hr, ht⟩ := hv
  exact ⟨v, vs', rfl, RepV.del hk hm x v hr, RepVs.del hk hm ds vs' ht⟩
end
end

def Ob.del (d : Nat) (ob : Ob) : Ob := { ob with cells := ob.cells.map (V.del d) }
theorem get_map_del (l : List (Nat × V)) (d t : Nat) : get (l.map fun x => (x.1, x.2.del d)) t = (get l t).del d := by
 induction l with
 | nil => simp [get, V.del]
 | cons x l ih =>
  obtain ⟨s, v⟩ := x
  simp only [List.map_cons, get]
  split
  · rfl
  · exact ih

section
variable {ro : Option Nat} {P : Program} {B : Nat} {w0 : World} {S0 : Nat → Prop} {φ : Nat → Option Nat} {env : Env} {a : Act} {w : World}

theorem Rel.del (h : Rel B w0 S0 φ env a w) {A R : List Ob} {X : Ob} {d : Nat} (hA : A.length = d) (hob : env.objs = A ++ X :: R) (hg : env.gs.1 ≤ d) :
  Rel B w0 S0 (fun i => φ (if i < d then i else i + 1)) { env with tmps := env.tmps.map fun x => (x.1, x.2.del d), objs := (A ++ R).map (Ob.del d) } a w := by
 have hL : env.objs.length = d + (R.length + 1) := by rw [hob]; simp [hA]
 have hL' : ((A ++ R).map (Ob.del d)).length = d + R.length := by simp [hA]
 have hk : Keeps w (Imm B S0 φ env.objs.length) w (Imm B S0 (fun i => φ (if i < d then i else i + 1)) (d + R.length)) := fun b o x hb hc => ⟨hc, hb.1, fun i hi => hb.2 _ (by split <;> omega)⟩
 have hm : ∀ i, i < env.objs.length → i ≠ d → (if d < i then i - 1 else i) < d + R.length ∧ (fun i => φ (if i < d then i else i + 1)) (if d < i then i - 1 else i) = φ i := by
  intro i hi hne
  by_cases hdi : d < i
  ·
   rw [if_pos hdi]
   refine ⟨by omega, ?_⟩
   show φ (if i - 1 < d then i - 1 else i - 1 + 1) = φ i
   rw [if_neg (by omega)]; congr 1; omega
  ·
   rw [if_neg hdi]
   refine ⟨by omega, ?_⟩
   show φ (if i < d then i else i + 1) = φ i
   rw [if_pos (by omega)]
 refine ⟨h.below, h.base, h.nodef, h.size, fun t => ?_, fun i ob hi => ?_, fun i g hi hi2 => ?_, fun i j g hi hj h1 h2 => ?_, ?_, fun x hx => ?_⟩
 ·
  rw [hL', get_map_del]
  exact RepV.del hk hm _ _ (h.tmps t)
 ·
  rw [hL']
  have hi' : ((A ++ R).map (Ob.del d))[i]? = some ob := hi
  rw [List.getElem?_map] at hi'
  cases hq : (A ++ R)[i]? with
  | none => rw [hq] at hi'; cases hi'
  | some oq =>
   rw [hq] at hi'
   simp only [Option.map_some, Option.some.injEq] at hi'
   subst hi'
   have ho : env.objs[if i < d then i else i + 1]? = some oq := by
    rw [hob]
    by_cases hid : i < d
    ·
     rw [if_pos hid, List.getElem?_append_left (by omega)]
     rw [List.getElem?_append_left (by omega)] at hq; exact hq
    ·
     rw [if_neg hid, List.getElem?_append_right (by omega)]
     rw [List.getElem?_append_right (by omega)] at hq
     rw [show i + 1 - A.length = (i - A.length) + 1 by omega, List.getElem?_cons_succ]; exact hq
   rcases h.objs _ oq ho with ⟨h1, h2⟩ | ⟨g, cur, vals, rest, h1, h2, h3, h4⟩
   · exact .inl ⟨h1, by simp [Ob.del, h2]⟩
   · exact .inr ⟨g, cur, vals, rest, h1, h2, h3, by simp only [Ob.del]; rw [← V.dels_eq]; exact RepVs.del hk hm _ _ h4⟩
 ·
  have hi' : i < d + R.length := by rw [← hL']; exact hi
  exact h.low _ g (by split <;> omega) hi2
 ·
  have hi' : i < d + R.length := by rw [← hL']; exact hi
  have hj' : j < d + R.length := by rw [← hL']; exact hj
  have := h.inj _ _ g (by split <;> omega) (by split <;> omega) h1 h2
  split at this <;> split at this <;> omega
 ·
  show env.gs.1 ≤ ((A ++ R).map (Ob.del d)).length
  rw [hL']; omega
 ·
  rw [hL']
  have hx2 := h.ghost.2 x hx
  refine ⟨hx2.1, RepV.mono (w := w) (w' := w) ⟨hk, KeepsOthers.refl _, Nat.le_refl _, fun i hi _ => ⟨?_, fun g _ cur e hc => ⟨cur, hc, rfl⟩⟩⟩ _ _ hx2.2⟩
  have : i < d := by omega
  simp [this]

variable {Q : Exit → Env → Prop} {c : Code}
theorem PW.del (d : Nat) (A R : List Ob) (X : Ob) (hA : A.length = d) (hob : env.objs = A ++ X :: R) (hg : env.gs.1 ≤ d) (h : PW ro P c Q { env with tmps := env.tmps.map fun x => (x.1, x.2.del d), objs := (A ++ R).map (Ob.del d) }) : PW ro P c Q env :=
 fun B w0 S0 φ a w hr => h B w0 S0 _ a w (hr.del hA hob hg)
end

theorem V.delOwn (d j j' off n sz : Nat) (h : d < j) (h' : j = j' + 1) : V.del d (.own j off n sz) = .own j' off n sz := by
 simp only [V.del]; rw [if_neg (by omega), if_pos h, h']; rfl
theorem V.delPtr (d j j' off : Nat) (h : d < j) (h' : j = j' + 1) : V.del d (.ptr j off) = .ptr j' off := by
 simp only [V.del]; rw [if_neg (by omega), if_pos h, h']; rfl
theorem V.stayOwn (d j off n sz : Nat) (h : j < d) : V.del d (.own j off n sz) = .own j off n sz := by
 simp only [V.del]; rw [if_neg (by omega), if_neg (by omega)]
theorem V.stayPtr (d j off : Nat) (h : j < d) : V.del d (.ptr j off) = .ptr j off := by
 simp only [V.del]; rw [if_neg (by omega), if_neg (by omega)]
theorem V.delD (d : Nat) (x : D) : V.del d (.d x) = .d x := by simp only [V.del]
theorem V.delDead (d : Nat) : V.del d .dead = .dead := by simp only [V.del]
theorem V.delAgg (d : Nat) (l : List V) : V.del d (.agg l) = .agg (l.map (V.del d)) := by simp only [V.del, V.dels_eq]
theorem V.delTup (d : Nat) (l : List V) : V.del d (.tup l) = .tup (l.map (V.del d)) := by simp only [V.del, V.dels_eq]
theorem V.delClo (d f : Nat) (l : List V) : V.del d (.clo f l) = .clo f (l.map (V.del d)) := by simp only [V.del, V.dels_eq]
theorem V.del_mapD (d : Nat) (l : List D) : (l.map V.d).map (V.del d) = l.map V.d := by
 rw [List.map_map]; exact List.map_congr_left fun x _ => V.delD d x
theorem V.del_map {α : Type} (d : Nat) (l : List α) (f : α → D) : (l.map fun x => V.d (f x)).map (V.del d) = l.map fun x => V.d (f x) := by
 rw [List.map_map]; exact List.map_congr_left fun x _ => V.delD d _
theorem FamD.del {α : Type} [Inhabited α] {F : α → Ob} (h : FamD F) (d n : Nat) (us : List α) : (k5 n F us).map (Ob.del d) = k5 n F us := h.mapF (V.del d) (fun x => V.delD d x) n us
theorem ctrP_del (b n d : Nat) (h : n + b ≤ d) : (p3 b n).map (V.del d) = p3 b n := by
 simp only [p3, List.map_map]
 refine List.map_congr_left fun k hk => ?_
 have := List.mem_range.1 hk
 exact V.stayPtr d (k + b) 0 (by omega)
theorem lenAdd {α : Type} (l : List α) (a b : Nat) : l.length + a + b = l.length + (a + b) := Nat.add_assoc ..
theorem ltP {k m : Nat} (n : Nat) (h : k < m) : (k < n + m) = True := eq_true (by omega)
theorem neP {k m : Nat} (n : Nat) (h : k < m) : (n + m = k) = False := eq_false (by omega)
theorem neP' {k m : Nat} (n : Nat) (h : k < m) : (k = n + m) = False := eq_false (by omega)
theorem ctrP_cut' {b n k : Nat} (h : b ≤ k) : (p3 b n).map (V.cut (n + k)) = p3 b n := by
 simp only [p3, List.map_map]
 refine List.map_congr_left fun j hj => ?_
 have := List.mem_range.1 hj
 show V.cut (n + k) (.ptr (j + b) 0) = .ptr (j + b) 0
 simp only [V.cut]; rw [if_pos (by omega)]
theorem famN_assoc {α : Type} [Inhabited α] (n : Nat) (F : α → Ob) (us : List α) (A B : List Ob) : k5 n F us ++ A ++ B = k5 n F us ++ (A ++ B) := List.append_assoc ..
theorem ctrP_kill' {b n k : Nat} (h : b ≤ k) : (p3 b n).map (V.kill (n + k)) = p3 b n := by
 simp only [p3, List.map_map]
 refine List.map_congr_left fun j hj => ?_
 have := List.mem_range.1 hj
 show V.kill (n + k) (.ptr (j + b) 0) = .ptr (j + b) 0
 simp only [V.kill]; rw [if_neg (by omega)]
theorem ctrP_frz' {b n k : Nat} (objs : List Ob) (h : b ≤ k) : (p3 b n).map (V.frz objs (n + k)) = p3 b n := by
 simp only [p3, List.map_map]
 refine List.map_congr_left fun j hj => ?_
 have := List.mem_range.1 hj
 show V.frz objs (n + k) (.ptr (j + b) 0) = .ptr (j + b) 0
 simp only [V.frz]; rw [if_neg (by omega)]
theorem leSelf (n : Nat) : (n ≤ n) = True := eq_true (Nat.le_refl n)
theorem leAddS (n k : Nat) : (n ≤ n + k) = True := eq_true (Nat.le_add_right n k)
theorem segMap {α : Type} (f : α → D) (l : List α) : seg (l.map f) 0 l.length = l.map f := by
 simp only [seg, List.drop_zero]
 exact List.take_of_length_le (by simp)
attribute [go_sem] killMap segMap leSelf leAddS ctrP_cut' ctrP_kill' ctrP_frz' famN_assoc lenAdd ltP neP neP' Nat.add_lt_add_iff_left Nat.add_left_cancel_iff
theorem takeFlat {α : Type} (F : α → List D) (k : Nat) (hF : ∀ x, (F x).length = k) (t : List α) : (t.flatMap F).take (t.length * k) = t.flatMap F := take_flat t hF rfl
theorem takeFlat1 {α : Type} (F : α → List D) (k : Nat) (hF : ∀ x, (F x).length = k) (t : List α) (l : List D) (h : l.length = k) : (t.flatMap F ++ l).take ((t.length + 1) * k) = t.flatMap F ++ l := by
 refine List.take_of_length_le ?_
 rw [List.length_append, j5 k F hF, h, Nat.add_mul]; omega
theorem allValFlat {α : Type} (F : α → List D) (h : ∀ x, (F x).all isValD = true) : ∀ (t : List α), (t.flatMap F).all isValD = true
 | [] => rfl
 | x :: t => by rw [List.flatMap_cons, List.all_append, h, allValFlat F h t]; rfl
theorem segFlatSnoc {α : Type} (F : α → List D) (k : Nat) (hF : ∀ x, (F x).length = k) (l : List α) (y : α) (c : List D) (hc : c = F y) : seg (l.flatMap F ++ c) 0 ((l.length + 1) * k) = (l ++ [y]).flatMap F := by
 subst hc
 have e : (l ++ [y]).flatMap F = l.flatMap F ++ F y := by simp
 rw [e]
 simp only [seg, List.drop_zero]
 exact takeFlat1 F k hF l (F y) (hF y)
theorem takeFlatSnoc {α : Type} (F : α → List D) (k : Nat) (hF : ∀ x, (F x).length = k) (hz : ∀ x, (F x).map nz = F x) (l : List α) (y : α) (c : List D) (hc : c = F y) :
  ((l.flatMap F).map nz ++ c).take ((l.length + 1) * k) = (l ++ [y]).flatMap F := by
 subst hc
 have e : (l ++ [y]).flatMap F = l.flatMap F ++ F y := by simp
 rw [e, map_nz_flat hz]
 exact takeFlat1 F k hF l (F y) (hF y)
theorem d3 (objs : List Ob) (k : Nat) (l : List D) (x0 x1 x2 x3 x4 x5 x6 x7 x8 : D) (a n : Nat) : okAll objs k (seg (l.map V.d ++ [V.d x0, V.d x1, V.d x2, V.d x3, V.d x4, V.d x5, V.d x6, V.d x7, V.d x8]) a n) = True :=
 okAll_segD2 objs k l [x0, x1, x2, x3, x4, x5, x6, x7, x8] a n
theorem takeFlatS {α : Type} (F : α → List D) (k : Nat) (hF : ∀ x, (F x).length = k) (l : List α) (y : α) : ((l ++ [y]).flatMap F).take ((l.length + 1) * k) = (l ++ [y]).flatMap F := by
 refine List.take_of_length_le ?_
 rw [j5 k F hF, List.length_append]; exact Nat.le_refl _
theorem OW.callM' {ro : Option Nat} {P : Program} {env : Env} {all : List Oper} {K : Env → Prop} {o : Oper} {rest : List Oper} {fo : Operand} {xs : Array Operand} {ts : Array TypeId} (ho : o.op = .call { callee := .value fo, args := xs, argTypes := ts }) (hg : o.guard = none)
  {f : FuncId} {caps : List V} (hf : cloOf (ev env fo) = some (f, caps)) {r : V} {objs' : List Ob} {vs : List V} (hvs : xs.toList.map (ev env) ++ caps = vs) (hc : CallM P f vs env.objs r objs' []) (hle : env.objs.length ≤ objs'.length) (hd : l3 env o.dst)
  (h : OW ro P all rest (putO { env with objs := objs' } o.dst r) K) : OW ro P all (o :: rest) env K := by
 have e1 : (env.tmps.map fun x => (x.1, p2 [] x.2)) = env.tmps := (List.map_congr_left fun x _ => rfl).trans (List.map_id _)
 have e2 : (env.gs.2.map fun x => (p2 [] x.1, x.2)) = env.gs.2 := (List.map_congr_left fun x _ => rfl).trans (List.map_id _)
 exact OW.callM (ks := []) ho hg hf (by rw [hvs]; exact hc) hle hd (by rw [e1, e2]; exact h)
end Go.PW
