/-
  What this seat's functions of Go's library do: strings.Join, strconv.Itoa (the shelf's contracts, laid over this program), slices.Clone.
-/
import Derived.Shelf.Strings.OnBuilder
import Derived.Shelf.LaysM
import Derived.Shelf.Strconv.Itoa3
import Derived.Ground.Names2Prog
import Derived.Lib.AppendIntMem
import Derived.Test.YtbndgoeahoadlaaDoorProg
import Derived.Test.YtbndgoeahoadlaaDoorPwT
set_option linter.all false
namespace Go.Proofs
open Go.Shelf Go.RowKit
def Tryd.lays156_ren : Go.Shelf.Ren := ⟨fun | 156 => 40 | 165 => 54 | 166 => 55 | 169 => 56 | 240 => 69 | 241 => 70 | 276 => 80 | 277 => 81 | n => n, fun | 31 => 87 | 9 => 9 | 3 => 3 | 4 => 4 | 0 => 0 | 20 => 20 | 72 => 112 | 76 => 115 | 70 => 109 | 37 => 110 | 75 => 114 | 127 => 129 | 164 => 141 | 5 => 5 | 80 => 117 | n => n, fun | n => n⟩
theorem Tryd.lays156 : Go.Proofs.Lays.n156 Tryd.prog Tryd.lays156_ren := {
  mixed := by kernel_rfl
  f156 := Tryd.func40.trans (congrArg some (by kernel_rfl))
  f165 := Tryd.func54.trans (congrArg some (by kernel_rfl))
  f166 := Tryd.func55.trans (congrArg some (by kernel_rfl))
  f169 := Tryd.func56.trans (congrArg some (by kernel_rfl))
  f240 := Tryd.func69.trans (congrArg some (by kernel_rfl))
  f241 := Tryd.func70.trans (congrArg some (by kernel_rfl))
  f276 := Tryd.func80.trans (congrArg some (by kernel_rfl))
  f277 := Tryd.func81.trans (congrArg some (by kernel_rfl))
  t0 := Tryd.underlying0
  a0 := Tryd.isAgg0
  z0 := Tryd.sizeOf0
  v0 := Tryd.zeroValue0
  t3 := Tryd.underlying3
  a3 := Tryd.isAgg3
  z3 := Tryd.sizeOf3
  v3 := Tryd.zeroValue3
  t4 := Tryd.underlying4
  a4 := Tryd.isAgg4
  z4 := Tryd.sizeOf4
  v4 := Tryd.zeroValue4
  t9 := Tryd.underlying9
  a9 := Tryd.isAgg9
  z9 := Tryd.sizeOf9
  v9 := Tryd.zeroValue9
  t20 := Tryd.underlying20
  a20 := Tryd.isAgg20
  z20 := Tryd.sizeOf20
  v20 := Tryd.zeroValue20
  t31 := Tryd.underlying87
  a31 := Tryd.isAgg87
  z31 := Tryd.sizeOf87
  v31 := Tryd.zeroValue87
  t37 := Tryd.underlying110
  a37 := Tryd.isAgg110
  z37 := Tryd.sizeOf110
  v37 := Tryd.zeroValue110
  t70 := Tryd.underlying109
  a70 := Tryd.isAgg109
  z70 := Tryd.sizeOf109
  v70 := Tryd.zeroValue109
  t72 := Tryd.underlying112
  a72 := Tryd.isAgg112
  z72 := Tryd.sizeOf112
  v72 := Tryd.zeroValue112
  t75 := Tryd.underlying114
  a75 := Tryd.isAgg114
  z75 := Tryd.sizeOf114
  v75 := Tryd.zeroValue114
  t76 := Tryd.underlying115
  a76 := Tryd.isAgg115
  z76 := Tryd.sizeOf115
  v76 := Tryd.zeroValue115
  t127 := Tryd.underlying129
  a127 := Tryd.isAgg129
  z127 := Tryd.sizeOf129
  v127 := Tryd.zeroValue129
  t164 := Tryd.underlying141
  a164 := Tryd.isAgg141
  z164 := Tryd.sizeOf141
  v164 := Tryd.zeroValue141 }
theorem Tryd.Builder_Extra_156 : Builder.Extra Tryd.prog Tryd.lays156_ren := {
  sizeBuilder := by kernel_rfl
  liesBuilder := by kernel_rfl
  t5 := Tryd.underlying5
  a5 := Tryd.isAgg5
  z5 := Tryd.sizeOf5
  v5 := Tryd.zeroValue5
  infoByte := by kernel_rfl
  cellsByte := by kernel_rfl
  sizeByte := by kernel_rfl
  neB5 := by decide }
open Go.RowKit in
def Tryd.laysM171_ren : Go.Shelf.Ren := ⟨fun | 171 => 38 | 243 => 53 | 246 => 68 | 283 => 76 | 284 => 77 | 285 => 78 | 286 => 79 | 129 => 85 | 317 => 84 | 318 => 86 | 319 => 87 | 320 => 88 | 337 => 91 | 338 => 92 | n => n, fun | 3 => 3 | 9 => 9 | 2 => 2 | 4 => 4 | 171 => 135 | 0 => 0 | 53 => 136 | 37 => 110 | 5 => 5 | 173 => 139 | 212 => 147 | 51 => 148 | 20 => 20 | 213 => 149 | 46 => 150 | 232 => 156 | 233 => 157 | n => n, fun | 17 => 0 | 18 => 2 | 19 => 3 | n => n⟩
theorem Tryd.laysM171 : Go.Proofs.LaysM.n171 Tryd.prog Tryd.laysM171_ren := {
  mixed := by kernel_rfl
  f129 := Tryd.func85.trans (congrArg some (by kernel_rfl))
  f171 := Tryd.func38.trans (congrArg some (by kernel_rfl))
  f243 := Tryd.func53.trans (congrArg some (by kernel_rfl))
  f246 := Tryd.func68.trans (congrArg some (by kernel_rfl))
  f283 := Tryd.func76.trans (congrArg some (by kernel_rfl))
  f284 := Tryd.func77.trans (congrArg some (by kernel_rfl))
  f285 := Tryd.func78.trans (congrArg some (by kernel_rfl))
  f286 := Tryd.func79.trans (congrArg some (by kernel_rfl))
  f317 := Tryd.func84.trans (congrArg some (by kernel_rfl))
  f318 := Tryd.func86.trans (congrArg some (by kernel_rfl))
  f319 := Tryd.func87.trans (congrArg some (by kernel_rfl))
  f320 := Tryd.func88.trans (congrArg some (by kernel_rfl))
  f337 := Tryd.func91.trans (congrArg some (by kernel_rfl))
  f338 := Tryd.func92.trans (congrArg some (by kernel_rfl))
  t0 := Tryd.underlying0
  a0 := Tryd.isAgg0
  z0 := Tryd.sizeOf0
  v0 := Tryd.zeroValue0
  t2 := Tryd.underlying2
  a2 := Tryd.isAgg2
  z2 := Tryd.sizeOf2
  v2 := Tryd.zeroValue2
  t3 := Tryd.underlying3
  a3 := Tryd.isAgg3
  z3 := Tryd.sizeOf3
  v3 := Tryd.zeroValue3
  t4 := Tryd.underlying4
  a4 := Tryd.isAgg4
  z4 := Tryd.sizeOf4
  v4 := Tryd.zeroValue4
  t5 := Tryd.underlying5
  a5 := Tryd.isAgg5
  z5 := Tryd.sizeOf5
  v5 := Tryd.zeroValue5
  t9 := Tryd.underlying9
  a9 := Tryd.isAgg9
  z9 := Tryd.sizeOf9
  v9 := Tryd.zeroValue9
  t20 := Tryd.underlying20
  a20 := Tryd.isAgg20
  z20 := Tryd.sizeOf20
  v20 := Tryd.zeroValue20
  t37 := Tryd.underlying110
  a37 := Tryd.isAgg110
  z37 := Tryd.sizeOf110
  v37 := Tryd.zeroValue110
  t46 := Tryd.underlying150
  a46 := Tryd.isAgg150
  z46 := Tryd.sizeOf150
  v46 := Tryd.zeroValue150
  t51 := Tryd.underlying148
  a51 := Tryd.isAgg148
  z51 := Tryd.sizeOf148
  v51 := Tryd.zeroValue148
  t53 := Tryd.underlying136
  a53 := Tryd.isAgg136
  z53 := Tryd.sizeOf136
  v53 := Tryd.zeroValue136
  t171 := Tryd.underlying135
  a171 := Tryd.isAgg135
  z171 := Tryd.sizeOf135
  v171 := Tryd.zeroValue135
  t173 := Tryd.underlying139
  a173 := Tryd.isAgg139
  z173 := Tryd.sizeOf139
  v173 := Tryd.zeroValue139
  t212 := Tryd.underlying147
  a212 := Tryd.isAgg147
  z212 := Tryd.sizeOf147
  v212 := Tryd.zeroValue147
  t213 := Tryd.underlying149
  a213 := Tryd.isAgg149
  z213 := Tryd.sizeOf149
  t232 := Tryd.underlying156
  a232 := Tryd.isAgg156
  z232 := Tryd.sizeOf156
  v232 := Tryd.zeroValue156
  t233 := Tryd.underlying157
  a233 := Tryd.isAgg157
  z233 := Tryd.sizeOf157
  v233 := Tryd.zeroValue157
  g17 := by kernel_rfl
  g18 := by kernel_rfl
  g19 := by kernel_rfl
  i0 := by kernel_rfl
  i2 := by kernel_rfl
  i3 := by kernel_rfl
  i4 := by kernel_rfl
  i5 := by kernel_rfl
  i9 := by kernel_rfl
  i20 := by kernel_rfl
  i37 := by kernel_rfl
  i46 := by kernel_rfl
  i51 := by kernel_rfl
  i53 := by kernel_rfl
  i171 := by kernel_rfl
  i173 := by kernel_rfl
  i212 := by kernel_rfl
  i232 := by kernel_rfl
  i233 := by kernel_rfl
  m17 := by kernel_rfl
  m18 := by kernel_rfl
  m19 := by kernel_rfl }

end Go.Proofs
namespace Go.Proofs.YtbndgoeahoadlaaDoor
open Go.PW Go.Shelf Go.RowKit
/-- The table of powers of ten. -/
theorem pow10_in : ((0, Lib.pow10Tab.map fun z => Value.int .u64 z) : Nat × List Value) ∈ gtab := by
  have e : gtab[0]? = some (0, Lib.pow10Tab.map fun z => Value.int .u64 z) := by kernel_rfl
  exact List.mem_of_getElem? e
theorem tab_is {w : World} {B : Nat} {S : Nat → Prop} {n : String} (hn : Tryd.prog.globalNamed n = some 0) (h : GI B w S) : Lib.TabIs Tryd.prog w n .u64 Lib.pow10Tab := by
  obtain ⟨e, r, hh⟩ := (h _ pow10_in).2.2
  simp only [Lib.TabIs, World.var?, hn, Option.bind_some, hh]
theorem CallOK.flat {P : Program} {f : FuncId} {ds : List D} {x : Value} (hc : ∀ args w, (callFunc f args).run P w = .ok (.enter f args) w)
    (h : ∀ (w : World) (S : Nat → Prop) (vs : List Value), GI w.heap.size w S → RepAll w S ds vs → Calls P f vs.toArray w fun e w' => e = .returned x ∧ Below w.heap.size w w') : CallOK P f ds (.d (.val x)) [] :=
  ⟨hc, fun w S vs hgi hvs => (h w S vs hgi hvs).mono fun e w' ⟨he, hb⟩ => ⟨x, fun _ => none, he, hb, by simp [RepV, RepD], fun i ob hi => by simp at hi, fun i g hi => by simp at hi, fun i j g hi => by simp at hi⟩⟩
theorem itoa_ok {n : Int} (h0 : -9223372036854775808 ≤ n) (h1 : n ≤ 9223372036854775807) : CallOK Tryd.prog 38 [.val (.int .i64 n)] (.d (.val (.string ⟨(Lib.itoa n).toArray⟩))) [] := by
  refine CallOK.flat Tryd.call38 fun w S vs hgi hvs => ?_
  simp only [RepAll, RepD] at hvs
  obtain ⟨v, vs', rfl, rfl, rfl⟩ := hvs
  refine (Any.strconv_Itoa Tryd.laysM171 n h0 h1 w (tab_is (by kernel_rfl) hgi)).mono ?_
  rintro e w' ⟨he, k, os, rfl⟩
  exact ⟨he, Lib.below_grow _ _ (Nat.le_refl _) k os⟩
def isS : D → Bool
  | .val (.string _) => true
  | _ => false
def strS : D → ByteArray
  | .val (.string s) => s
  | _ => ⟨#[]⟩
theorem rep_strs {w : World} {S : Nat → Prop} {b : Nat} : ∀ (l : List D) (o : Nat), l.all isS = true → RepCells w S l b o → ∀ (j : Nat) x, (l.map strS)[j]? = some x → w.cell? ⟨b, o + j, none⟩ = some (.string x)
  | [], _, _, _, j, x, h => by simp at h
  | d :: l, o, ha, hr, j, x, h => by
    simp only [List.all_cons, Bool.and_eq_true] at ha
    simp only [RepCells] at hr
    obtain ⟨⟨_, v, hc, hv⟩, hr⟩ := hr
    cases j with
    | zero =>
      simp only [List.map_cons, List.getElem?_cons_zero, Option.some.injEq] at h
      subst h
      cases d with
      | val y =>
        cases y with
        | string s => simp only [RepD] at hv; rw [Nat.add_zero, hc, hv]; rfl
        | _ => simp [isS] at ha
      | _ => simp [isS] at ha
    | succ j =>
      have := rep_strs l (o + 1) ha.2 hr j x (by simpa using h)
      rw [show o + (j + 1) = o + 1 + j by omega]; exact this
def joinB (l : List ByteArray) (s : ByteArray) : ByteArray := ⟨(Lib.join (l.map (·.data.toList)) s.data.toList).toArray⟩
theorem join_ok {n : Nat} {cells : List D} {sep : ByteArray} (ha : cells.all isS = true) (hn : n = cells.length) (hN : n ≤ 1000000) (hl : (Lib.join ((cells.map strS).map (·.data.toList)) sep.data.toList).length ≤ 140737488355328) :
    CallOK Tryd.prog 40 [.list n cells, .val (.string sep)] (.d (.val (.string (joinB (cells.map strS) sep)))) [] := by
  refine CallOK.flat Tryd.call40 fun w S vs hgi hvs => ?_
  simp only [RepAll, RepD] at hvs
  obtain ⟨v, vs', rfl, ⟨a, cap, rfl, hcap, hc⟩, v2, vs2, rfl, rfl, rfl⟩ := hvs
  rcases hc with rfl | ⟨b, o, rfl, hr⟩
  · subst hn
    refine (Any.strings_Join_none Tryd.lays156 Tryd.Builder_Extra_156 a cap sep w).mono ?_
    rintro e w' ⟨he, rfl⟩
    exact ⟨by rw [he]; rfl, Below.refl _ _⟩
  · cases cells with
    | nil =>
      subst hn
      refine (Any.strings_Join_none Tryd.lays156 Tryd.Builder_Extra_156 _ cap sep w).mono ?_
      rintro e w' ⟨he, rfl⟩
      exact ⟨by rw [he]; rfl, Below.refl _ _⟩
    | cons d l =>
      have hcells := rep_strs (d :: l) o ha hr
      have hb : b < w.heap.size := by
        simp only [RepCells] at hr
        obtain ⟨⟨_, v, hcv, _⟩, _⟩ := hr
        rcases Nat.lt_or_ge b w.heap.size with h | h
        · exact h
        · simp [World.cell?, Array.getElem?_eq_none h] at hcv
      have e := Any.strings_Join Tryd.lays156 Tryd.Builder_Extra_156 b o cap ((d :: l).map strS) sep w hcells hb (by simp only [List.length_map]; omega) (by simp only [List.length_map]; omega) hl
      rw [List.length_map, ← hn] at e
      exact e
end Go.Proofs.YtbndgoeahoadlaaDoor
