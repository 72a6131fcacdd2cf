import Derived.Shelf.Strings.OnBuilder
import Derived.Shelf.LaysM
import Derived.Shelf.Strconv.Itoa3
import Derived.Ground.Names2Prog
import Derived.Lib.AppendIntMem
import Derived.Test.YtbndgoeahoadlaaGreatDoorProg
import Derived.Test.YtbndgoeahoadlaaGreatDoorPlA
import Derived.Test.YtbndgoeahoadlaaGreatDoorAsM
import Derived.Test.YtbndgoeahoadlaaGreatDoorExG
import Derived.KernelRfl
set_option linter.all false
namespace Go.Proofs
open Go.Shelf Go.RowKit
def Tryz.lays156_ren : Go.Shelf.Ren := ⟨fun | 156 => 116 | 165 => 142 | 166 => 143 | 169 => 144 | 240 => 160 | 241 => 161 | 276 => 180 | 277 => 181 | n => n, fun | 31 => 167 | 9 => 9 | 3 => 3 | 4 => 4 | 0 => 0 | 20 => 20 | 72 => 196 | 76 => 199 | 70 => 193 | 37 => 194 | 75 => 198 | 127 => 212 | 164 => 233 | 5 => 5 | 80 => 201 | n => n, fun | n => n⟩
theorem Tryz.lays156 : Go.Proofs.Lays.n156 Tryz.prog Tryz.lays156_ren := {
  mixed := by kernel_rfl
  f156 := Tryz.func116.trans (congrArg some (by kernel_rfl))
  f165 := Tryz.func142.trans (congrArg some (by kernel_rfl))
  f166 := Tryz.func143.trans (congrArg some (by kernel_rfl))
  f169 := Tryz.func144.trans (congrArg some (by kernel_rfl))
  f240 := Tryz.func160.trans (congrArg some (by kernel_rfl))
  f241 := Tryz.func161.trans (congrArg some (by kernel_rfl))
  f276 := Tryz.func180.trans (congrArg some (by kernel_rfl))
  f277 := Tryz.func181.trans (congrArg some (by kernel_rfl))
  t0 := Tryz.underlying0
  a0 := Tryz.isAgg0
  z0 := Tryz.sizeOf0
  v0 := Tryz.zeroValue0
  t3 := Tryz.underlying3
  a3 := Tryz.isAgg3
  z3 := Tryz.sizeOf3
  v3 := Tryz.zeroValue3
  t4 := Tryz.underlying4
  a4 := Tryz.isAgg4
  z4 := Tryz.sizeOf4
  v4 := Tryz.zeroValue4
  t9 := Tryz.underlying9
  a9 := Tryz.isAgg9
  z9 := Tryz.sizeOf9
  v9 := Tryz.zeroValue9
  t20 := Tryz.underlying20
  a20 := Tryz.isAgg20
  z20 := Tryz.sizeOf20
  v20 := Tryz.zeroValue20
  t31 := Tryz.underlying167
  a31 := Tryz.isAgg167
  z31 := Tryz.sizeOf167
  v31 := Tryz.zeroValue167
  t37 := Tryz.underlying194
  a37 := Tryz.isAgg194
  z37 := Tryz.sizeOf194
  v37 := Tryz.zeroValue194
  t70 := Tryz.underlying193
  a70 := Tryz.isAgg193
  z70 := Tryz.sizeOf193
  v70 := Tryz.zeroValue193
  t72 := Tryz.underlying196
  a72 := Tryz.isAgg196
  z72 := Tryz.sizeOf196
  v72 := Tryz.zeroValue196
  t75 := Tryz.underlying198
  a75 := Tryz.isAgg198
  z75 := Tryz.sizeOf198
  v75 := Tryz.zeroValue198
  t76 := Tryz.underlying199
  a76 := Tryz.isAgg199
  z76 := Tryz.sizeOf199
  v76 := Tryz.zeroValue199
  t127 := Tryz.underlying212
  a127 := Tryz.isAgg212
  z127 := Tryz.sizeOf212
  v127 := Tryz.zeroValue212
  t164 := Tryz.underlying233
  a164 := Tryz.isAgg233
  z164 := Tryz.sizeOf233
  v164 := Tryz.zeroValue233 }
theorem w5 : Builder.Extra Tryz.prog Tryz.lays156_ren := {
  sizeBuilder := by kernel_rfl
  liesBuilder := by kernel_rfl
  t5 := Tryz.underlying5
  a5 := Tryz.isAgg5
  z5 := Tryz.sizeOf5
  v5 := Tryz.zeroValue5
  infoByte := by kernel_rfl
  cellsByte := by kernel_rfl
  sizeByte := by kernel_rfl
  neB5 := by decide }
theorem Tryz.strings_Join (bk o c : Nat) (xs : List ByteArray) (sep : ByteArray) (w : World) (hcells : ∀ (j : Nat) x, xs[j]? = some x → w.cell? ⟨bk, o + j, none⟩ = some (.string x)) (hbk : bk < w.heap.size) (hN : xs.length ≤ 140737488355328) (hcap : xs.length ≤ c) (hlen : (Lib.join (xs.map (·.data.toList)) sep.data.toList).length ≤ 140737488355328) :
    Calls Tryz.prog 116 #[.slice (some ⟨bk, o, none⟩) xs.length c, .string sep] w fun e w' => e = .returned (.string ⟨(Lib.join (xs.map (·.data.toList)) sep.data.toList).toArray⟩) ∧ Below w.heap.size w w' := Any.strings_Join Tryz.lays156 w5 bk o c xs sep w hcells hbk hN hcap hlen
def Tryz.laysM171_ren : Go.Shelf.Ren := ⟨fun | 171 => 114 | 243 => 141 | 246 => 159 | 283 => 176 | 284 => 177 | 285 => 178 | 286 => 179 | 129 => 175 | 317 => 189 | 318 => 190 | 319 => 191 | 320 => 192 | 337 => 194 | 338 => 195 | n => n, fun | 3 => 3 | 9 => 9 | 2 => 2 | 4 => 4 | 171 => 229 | 0 => 0 | 53 => 228 | 37 => 194 | 5 => 5 | 173 => 231 | 212 => 243 | 51 => 226 | 20 => 20 | 213 => 244 | 46 => 209 | 232 => 248 | 233 => 249 | n => n, fun | 17 => 1 | 18 => 3 | 19 => 4 | n => n⟩
theorem Tryz.laysM171 : Go.Proofs.LaysM.n171 Tryz.prog Tryz.laysM171_ren := {
  mixed := by kernel_rfl
  f129 := Tryz.func175.trans (congrArg some (by kernel_rfl))
  f171 := Tryz.func114.trans (congrArg some (by kernel_rfl))
  f243 := Tryz.func141.trans (congrArg some (by kernel_rfl))
  f246 := Tryz.func159.trans (congrArg some (by kernel_rfl))
  f283 := Tryz.func176.trans (congrArg some (by kernel_rfl))
  f284 := Tryz.func177.trans (congrArg some (by kernel_rfl))
  f285 := Tryz.func178.trans (congrArg some (by kernel_rfl))
  f286 := Tryz.func179.trans (congrArg some (by kernel_rfl))
  f317 := Tryz.func189.trans (congrArg some (by kernel_rfl))
  f318 := Tryz.func190.trans (congrArg some (by kernel_rfl))
  f319 := Tryz.func191.trans (congrArg some (by kernel_rfl))
  f320 := Tryz.func192.trans (congrArg some (by kernel_rfl))
  f337 := Tryz.func194.trans (congrArg some (by kernel_rfl))
  f338 := Tryz.func195.trans (congrArg some (by kernel_rfl))
  t0 := Tryz.underlying0
  a0 := Tryz.isAgg0
  z0 := Tryz.sizeOf0
  v0 := Tryz.zeroValue0
  t2 := Tryz.underlying2
  a2 := Tryz.isAgg2
  z2 := Tryz.sizeOf2
  v2 := Tryz.zeroValue2
  t3 := Tryz.underlying3
  a3 := Tryz.isAgg3
  z3 := Tryz.sizeOf3
  v3 := Tryz.zeroValue3
  t4 := Tryz.underlying4
  a4 := Tryz.isAgg4
  z4 := Tryz.sizeOf4
  v4 := Tryz.zeroValue4
  t5 := Tryz.underlying5
  a5 := Tryz.isAgg5
  z5 := Tryz.sizeOf5
  v5 := Tryz.zeroValue5
  t9 := Tryz.underlying9
  a9 := Tryz.isAgg9
  z9 := Tryz.sizeOf9
  v9 := Tryz.zeroValue9
  t20 := Tryz.underlying20
  a20 := Tryz.isAgg20
  z20 := Tryz.sizeOf20
  v20 := Tryz.zeroValue20
  t37 := Tryz.underlying194
  a37 := Tryz.isAgg194
  z37 := Tryz.sizeOf194
  v37 := Tryz.zeroValue194
  t46 := Tryz.underlying209
  a46 := Tryz.isAgg209
  z46 := Tryz.sizeOf209
  v46 := Tryz.zeroValue209
  t51 := Tryz.underlying226
  a51 := Tryz.isAgg226
  z51 := Tryz.sizeOf226
  v51 := Tryz.zeroValue226
  t53 := Tryz.underlying228
  a53 := Tryz.isAgg228
  z53 := Tryz.sizeOf228
  v53 := Tryz.zeroValue228
  t171 := Tryz.underlying229
  a171 := Tryz.isAgg229
  z171 := Tryz.sizeOf229
  v171 := Tryz.zeroValue229
  t173 := Tryz.underlying231
  a173 := Tryz.isAgg231
  z173 := Tryz.sizeOf231
  v173 := Tryz.zeroValue231
  t212 := Tryz.underlying243
  a212 := Tryz.isAgg243
  z212 := Tryz.sizeOf243
  v212 := Tryz.zeroValue243
  t213 := Tryz.underlying244
  a213 := Tryz.isAgg244
  z213 := Tryz.sizeOf244
  t232 := Tryz.underlying248
  a232 := Tryz.isAgg248
  z232 := Tryz.sizeOf248
  v232 := Tryz.zeroValue248
  t233 := Tryz.underlying249
  a233 := Tryz.isAgg249
  z233 := Tryz.sizeOf249
  v233 := Tryz.zeroValue249
  g17 := by kernel_rfl
  g18 := by kernel_rfl
  g19 := by kernel_rfl
  i0 := by kernel_rfl
  i2 := by kernel_rfl
  i3 := by kernel_rfl
  i4 := by kernel_rfl
  i5 := by kernel_rfl
  i9 := by kernel_rfl
  i20 := by kernel_rfl
  i37 := by kernel_rfl
  i46 := by kernel_rfl
  i51 := by kernel_rfl
  i53 := by kernel_rfl
  i171 := by kernel_rfl
  i173 := by kernel_rfl
  i212 := by kernel_rfl
  i232 := by kernel_rfl
  i233 := by kernel_rfl
  m17 := by kernel_rfl
  m18 := by kernel_rfl
  m19 := by kernel_rfl }

end Go.Proofs
namespace Go.Proofs.YtbndgoeahoadlaaGreatDoor
open Go.PW Go.Shelf Go.RowKit
/-- The table of powers of ten. -/
theorem pow10_in : ((1, Lib.pow10Tab.map fun z => Value.int .u64 z) : Nat × List Value) ∈ gtab := by
  have e : gtab[1]? = some (1, Lib.pow10Tab.map fun z => Value.int .u64 z) := by kernel_rfl
  exact List.mem_of_getElem? e
theorem tab_is {w : World} {B : Nat} {S : Nat → Prop} {n : String} (hn : Tryz.prog.globalNamed n = some 1) (h : GI B w S) : Lib.TabIs Tryz.prog w n .u64 Lib.pow10Tab := by
  obtain ⟨e, r, hh⟩ := (h _ pow10_in).2.2
  simp only [Lib.TabIs, World.var?, hn, Option.bind_some, hh]
theorem CallOK.flat {P : Program} {f : FuncId} {ds : List D} {x : Value} (hc : ∀ args w, (callFunc f args).run P w = .ok (.enter f args) w)
    (h : ∀ (w : World) (S : Nat → Prop) (vs : List Value), GI w.heap.size w S → RepAll w S ds vs → Calls P f vs.toArray w fun e w' => e = .returned x ∧ Below w.heap.size w w') : CallOK P f ds (.d (.val x)) [] :=
  ⟨hc, fun w S vs hgi hvs => (h w S vs hgi hvs).mono fun e w' ⟨he, hb⟩ => ⟨x, fun _ => none, he, hb, by simp [RepV, RepD], fun i ob hi => by simp at hi, fun i g hi => by simp at hi, fun i j g hi => by simp at hi⟩⟩
theorem itoa_ok {n : Int} (h0 : -9223372036854775808 ≤ n) (h1 : n ≤ 9223372036854775807) : CallOK Tryz.prog 114 [.val (.int .i64 n)] (.d (.val (.string ⟨(Lib.itoa n).toArray⟩))) [] := by
  refine CallOK.flat Tryz.call114 fun w S vs hgi hvs => ?_
  simp only [RepAll, RepD] at hvs
  obtain ⟨v, vs', rfl, rfl, rfl⟩ := hvs
  refine (Any.strconv_Itoa Tryz.laysM171 n h0 h1 w (tab_is (by kernel_rfl) hgi)).mono ?_
  rintro e w' ⟨he, k, os, rfl⟩
  exact ⟨he, Lib.below_grow _ _ (Nat.le_refl _) k os⟩
def isS : D → Bool
  | .val (.string _) => true
  | _ => false
def strS : D → ByteArray
  | .val (.string s) => s
  | _ => ⟨#[]⟩
theorem rep_strs {w : World} {S : Nat → Prop} {b : Nat} : ∀ (l : List D) (o : Nat), l.all isS = true → RepCells w S l b o → ∀ (j : Nat) x, (l.map strS)[j]? = some x → w.cell? ⟨b, o + j, none⟩ = some (.string x)
  | [], _, _, _, j, x, h => by simp at h
  | d :: l, o, ha, hr, j, x, h => by
    simp only [List.all_cons, Bool.and_eq_true] at ha
    simp only [RepCells] at hr
    obtain ⟨⟨_, v, hc, hv⟩, hr⟩ := hr
    cases j with
    | zero =>
      simp only [List.map_cons, List.getElem?_cons_zero, Option.some.injEq] at h
      subst h
      cases d with
      | val y =>
        cases y with
        | string s => simp only [RepD] at hv; rw [Nat.add_zero, hc, hv]; rfl
        | _ => simp [isS] at ha
      | _ => simp [isS] at ha
    | succ j =>
      have := rep_strs l (o + 1) ha.2 hr j x (by simpa using h)
      rw [show o + (j + 1) = o + 1 + j by omega]; exact this
def joinB (l : List ByteArray) (s : ByteArray) : ByteArray := ⟨(Lib.join (l.map (·.data.toList)) s.data.toList).toArray⟩
theorem join_ok {n : Nat} {cells : List D} {sep : ByteArray} (ha : cells.all isS = true) (hn : n = cells.length) (hN : n ≤ 1000000) (hl : (Lib.join ((cells.map strS).map (·.data.toList)) sep.data.toList).length ≤ 140737488355328) :
    CallOK Tryz.prog 116 [.list n cells, .val (.string sep)] (.d (.val (.string (joinB (cells.map strS) sep)))) [] := by
  refine CallOK.flat Tryz.call116 fun w S vs hgi hvs => ?_
  simp only [RepAll, RepD] at hvs
  obtain ⟨v, vs', rfl, ⟨a, cap, rfl, hcap, hc⟩, v2, vs2, rfl, rfl, rfl⟩ := hvs
  rcases hc with rfl | ⟨b, o, rfl, hr⟩
  · subst hn
    refine (Any.strings_Join_none Tryz.lays156 w5 a cap sep w).mono ?_
    rintro e w' ⟨he, rfl⟩
    exact ⟨by rw [he]; rfl, Below.refl _ _⟩
  · cases cells with
    | nil =>
      subst hn
      refine (Any.strings_Join_none Tryz.lays156 w5 _ cap sep w).mono ?_
      rintro e w' ⟨he, rfl⟩
      exact ⟨by rw [he]; rfl, Below.refl _ _⟩
    | cons d l =>
      have hcells := rep_strs (d :: l) o ha hr
      have hb : b < w.heap.size := by
        simp only [RepCells] at hr
        obtain ⟨⟨_, v, hcv, _⟩, _⟩ := hr
        rcases Nat.lt_or_ge b w.heap.size with h | h
        · exact h
        · simp [World.cell?, Array.getElem?_eq_none h] at hcv
      have e := Any.strings_Join Tryz.lays156 w5 b o cap ((d :: l).map strS) sep w hcells hb (by simp only [List.length_map]; omega) (by simp only [List.length_map]; omega) hl
      rw [List.length_map, ← hn] at e
      exact e
end Go.Proofs.YtbndgoeahoadlaaGreatDoor

namespace Go.Proofs.YtbndgoeahoadlaaGreatDoor
open Go.PW Go.Sh
/-- The texts of the numbers that occur. -/
def itoaT : List (Int × ByteArray) := [(9, ⟨#[57]⟩), (3, ⟨#[51]⟩), ((-1), ⟨#[45, 49]⟩), (0, ⟨#[48]⟩), (11, ⟨#[49, 49]⟩), (1, ⟨#[49]⟩), (48272, ⟨#[52, 56, 50, 55, 50]⟩), (4, ⟨#[52]⟩), (2, ⟨#[50]⟩)]
theorem itoaT_ok : ∀ x ∈ itoaT, (⟨(Lib.itoa x.1).toArray⟩ : ByteArray) = x.2 ∧ -9223372036854775808 ≤ x.1 ∧ x.1 ≤ 9223372036854775807 := by
  simp only [itoaT, List.forall_mem_cons, Lib.itoa]
  refine ⟨?_, ?_, ?_, ?_, ?_, ?_, ?_, ?_, ?_, List.forall_mem_nil _⟩
  all_goals (refine ⟨?_, by decide, by decide⟩; simp [Lib.decDigits])
def strsB (l : List D) (s : ByteArray) : Option ByteArray := if l.all isS && Nat.ble l.length 1000 && Nat.ble (joinB (l.map strS) s).data.toList.length 1000 then some (joinB (l.map strS) s) else none
def libA : FuncId → List D → Option (V × Obs) := fun f ds =>
  if Nat.beq f 114 = true then match ds with
    | [.val (.int .i64 n)] => match itoaT.find? (fun x => x.1 == n) with
      | some x => some (.d (.val (.string x.2)), [])
      | none => none
    | _ => none
  else if Nat.beq f 116 = true then match ds with
    | [.list n cells, .val (.string s)] => if Nat.beq n cells.length = true then match strsB cells s with
        | some b => some (.d (.val (.string b)), [])
        | none => none
      else none
    | _ => none
  else none
def libMA : FuncId → List V → List Ob → Option (V × List Ob × List Nat) := fun f args O => if Nat.beq f 120 = true then cloneM args O else none
def fnsA : List Nat := [15, 16, 17, 22, 24, 37, 44, 46, 53, 54, 73, 74, 75, 76, 77, 78, 79, 80, 82, 83, 84, 85, 86, 87, 94, 95, 96, 97, 98, 99, 100, 101, 102, 105, 106, 107, 111, 112, 115, 117, 118, 119, 121, 122, 123, 124, 125, 132, 133, 134, 135, 138, 139, 140, 145, 146, 147, 148, 149, 150, 151, 152, 153, 154, 155, 156, 157, 158, 162, 163, 164, 165, 166, 167, 168, 169, 170, 171, 172, 173, 174, 175, 182, 183, 184, 185, 186, 187, 188, 193]
def tbA : Tab := { fns := fnsA, mth := [120, 125, 147, 148, 149, 150, 151, 121, 146, 115, 133, 134, 156, 165, 166, 167, 168, 169, 170, 172, 173, 183, 193, 186, 187], lib := libA, libM := libMA, tls := [(0, 16, 14), (1, 7, 3), (1, 8, 6), (1, 9, 5), (1, 9, 8), (1, 10, 6), (1, 10, 7), (1, 10, 8), (1, 11, 8), (1, 11, 9), (1, 12, 8), (1, 12, 10), (1, 15, 11), (1, 16, 14), (1, 16, 15), (1, 18, 16), (1, 21, 16), (1, 22, 18), (1, 23, 21), (1, 28, 25), (2, 10, 7), (2, 11, 8), (2, 11, 9), (2, 12, 7), (2, 24, 18), (2, 24, 22), (3, 10, 7), (3, 13, 12), (3, 14, 12), (3, 15, 12), (3, 16, 14), (3, 20, 18), (3, 22, 20), (3, 29, 24), (4, 8, 6), (4, 9, 5), (4, 9, 6), (4, 10, 5), (4, 12, 10), (4, 15, 13), (4, 16, 13), (4, 16, 14), (4, 22, 17), (5, 5, 3), (5, 7, 4), (5, 11, 8), (5, 11, 10), (5, 12, 11), (5, 14, 12), (5, 14, 13), (5, 15, 12), (5, 16, 13), (5, 20, 18), (5, 22, 21), (6, 4, 3), (6, 8, 6), (6, 9, 8), (6, 10, 9), (6, 11, 8), (6, 11, 10), (6, 12, 10), (6, 13, 12), (6, 14, 12), (6, 18, 16), (6, 24, 22), (6, 25, 23), (7, 9, 7), (7, 10, 7), (7, 11, 9), (7, 11, 10), (7, 15, 13), (7, 17, 14), (7, 19, 16), (8, 8, 5), (8, 8, 6), (8, 15, 13), (8, 16, 14), (8, 21, 19), (8, 22, 20), (8, 27, 25), (9, 10, 9), (9, 15, 13), (10, 7, 6), (10, 10, 9), (10, 13, 12), (10, 15, 13), (10, 16, 14), (10, 20, 18), (10, 36, 33), (11, 6, 4), (11, 10, 9), (11, 18, 16), (12, 8, 6), (12, 14, 12), (13, 9, 7), (13, 14, 12), (13, 14, 13), (13, 34, 28), (14, 9, 6), (14, 13, 11), (15, 12, 11), (15, 15, 12), (15, 29, 23), (16, 10, 8), (16, 11, 9), (17, 14, 8), (17, 14, 11), (17, 15, 12), (17, 15, 13), (17, 18, 16), (18, 15, 13), (18, 16, 14), (19, 10, 7), (19, 14, 13), (19, 20, 17), (20, 14, 13), (21, 16, 14), (22, 11, 9), (22, 15, 13), (23, 10, 7), (23, 15, 13), (23, 18, 16), (24, 11, 10), (27, 25, 22), (28, 18, 16), (30, 13, 12), (41, 9, 8)], mrs := [(1, 9, 8), (1, 16, 15), (4, 9, 6), (4, 16, 13), (4, 16, 14), (5, 11, 10), (5, 12, 11), (5, 14, 13), (5, 22, 21), (6, 10, 9), (6, 12, 10), (6, 13, 12), (8, 22, 20), (10, 13, 12), (12, 14, 12), (13, 14, 13), (15, 12, 11), (17, 14, 11), (19, 14, 13), (20, 14, 13), (24, 11, 10), (30, 13, 12)], fz := [24], ors := [(1, 9, 8), (8, 22, 20), (4, 16, 14), (6, 12, 10)] }
theorem callsA : ∀ f ∈ fnsA, ∀ args w, (callFunc f args).run Tryz.prog w = .ok (.enter f args) w :=
  List.forall_mem_cons.2 ⟨Tryz.call15, List.forall_mem_cons.2 ⟨Tryz.call16, List.forall_mem_cons.2 ⟨Tryz.call17, List.forall_mem_cons.2 ⟨Tryz.call22, List.forall_mem_cons.2 ⟨Tryz.call24, List.forall_mem_cons.2 ⟨Tryz.call37, List.forall_mem_cons.2 ⟨Tryz.call44, List.forall_mem_cons.2 ⟨Tryz.call46, List.forall_mem_cons.2 ⟨Tryz.call53, List.forall_mem_cons.2 ⟨Tryz.call54, List.forall_mem_cons.2 ⟨Tryz.call73, List.forall_mem_cons.2 ⟨Tryz.call74, List.forall_mem_cons.2 ⟨Tryz.call75, List.forall_mem_cons.2 ⟨Tryz.call76, List.forall_mem_cons.2 ⟨Tryz.call77, List.forall_mem_cons.2 ⟨Tryz.call78, List.forall_mem_cons.2 ⟨Tryz.call79, List.forall_mem_cons.2 ⟨Tryz.call80, List.forall_mem_cons.2 ⟨Tryz.call82, List.forall_mem_cons.2 ⟨Tryz.call83, List.forall_mem_cons.2 ⟨Tryz.call84, List.forall_mem_cons.2 ⟨Tryz.call85, List.forall_mem_cons.2 ⟨Tryz.call86, List.forall_mem_cons.2 ⟨Tryz.call87, List.forall_mem_cons.2 ⟨Tryz.call94, List.forall_mem_cons.2 ⟨Tryz.call95, List.forall_mem_cons.2 ⟨Tryz.call96, List.forall_mem_cons.2 ⟨Tryz.call97, List.forall_mem_cons.2 ⟨Tryz.call98, List.forall_mem_cons.2 ⟨Tryz.call99, List.forall_mem_cons.2 ⟨Tryz.call100, List.forall_mem_cons.2 ⟨Tryz.call101, List.forall_mem_cons.2 ⟨Tryz.call102, List.forall_mem_cons.2 ⟨Tryz.call105, List.forall_mem_cons.2 ⟨Tryz.call106, List.forall_mem_cons.2 ⟨Tryz.call107, List.forall_mem_cons.2 ⟨Tryz.call111, List.forall_mem_cons.2 ⟨Tryz.call112, List.forall_mem_cons.2 ⟨Tryz.call115, List.forall_mem_cons.2 ⟨Tryz.call117, List.forall_mem_cons.2 ⟨Tryz.call118, List.forall_mem_cons.2 ⟨Tryz.call119, List.forall_mem_cons.2 ⟨Tryz.call121, List.forall_mem_cons.2 ⟨Tryz.call122, List.forall_mem_cons.2 ⟨Tryz.call123, List.forall_mem_cons.2 ⟨Tryz.call124, List.forall_mem_cons.2 ⟨Tryz.call125, List.forall_mem_cons.2 ⟨Tryz.call132, List.forall_mem_cons.2 ⟨Tryz.call133, List.forall_mem_cons.2 ⟨Tryz.call134, List.forall_mem_cons.2 ⟨Tryz.call135, List.forall_mem_cons.2 ⟨Tryz.call138, List.forall_mem_cons.2 ⟨Tryz.call139, List.forall_mem_cons.2 ⟨Tryz.call140, List.forall_mem_cons.2 ⟨Tryz.call145, List.forall_mem_cons.2 ⟨Tryz.call146, List.forall_mem_cons.2 ⟨Tryz.call147, List.forall_mem_cons.2 ⟨Tryz.call148, List.forall_mem_cons.2 ⟨Tryz.call149, List.forall_mem_cons.2 ⟨Tryz.call150, List.forall_mem_cons.2 ⟨Tryz.call151, List.forall_mem_cons.2 ⟨Tryz.call152, List.forall_mem_cons.2 ⟨Tryz.call153, List.forall_mem_cons.2 ⟨Tryz.call154, List.forall_mem_cons.2 ⟨Tryz.call155, List.forall_mem_cons.2 ⟨Tryz.call156, List.forall_mem_cons.2 ⟨Tryz.call157, List.forall_mem_cons.2 ⟨Tryz.call158, List.forall_mem_cons.2 ⟨Tryz.call162, List.forall_mem_cons.2 ⟨Tryz.call163, List.forall_mem_cons.2 ⟨Tryz.call164, List.forall_mem_cons.2 ⟨Tryz.call165, List.forall_mem_cons.2 ⟨Tryz.call166, List.forall_mem_cons.2 ⟨Tryz.call167, List.forall_mem_cons.2 ⟨Tryz.call168, List.forall_mem_cons.2 ⟨Tryz.call169, List.forall_mem_cons.2 ⟨Tryz.call170, List.forall_mem_cons.2 ⟨Tryz.call171, List.forall_mem_cons.2 ⟨Tryz.call172, List.forall_mem_cons.2 ⟨Tryz.call173, List.forall_mem_cons.2 ⟨Tryz.call174, List.forall_mem_cons.2 ⟨Tryz.call175, List.forall_mem_cons.2 ⟨Tryz.call182, List.forall_mem_cons.2 ⟨Tryz.call183, List.forall_mem_cons.2 ⟨Tryz.call184, List.forall_mem_cons.2 ⟨Tryz.call185, List.forall_mem_cons.2 ⟨Tryz.call186, List.forall_mem_cons.2 ⟨Tryz.call187, List.forall_mem_cons.2 ⟨Tryz.call188, List.forall_mem_cons.2 ⟨Tryz.call193, (List.forall_mem_nil _)⟩⟩⟩⟩⟩⟩⟩⟩⟩⟩⟩⟩⟩⟩⟩⟩⟩⟩⟩⟩⟩⟩⟩⟩⟩⟩⟩⟩⟩⟩⟩⟩⟩⟩⟩⟩⟩⟩⟩⟩⟩⟩⟩⟩⟩⟩⟩⟩⟩⟩⟩⟩⟩⟩⟩⟩⟩⟩⟩⟩⟩⟩⟩⟩⟩⟩⟩⟩⟩⟩⟩⟩⟩⟩⟩⟩⟩⟩⟩⟩⟩⟩⟩⟩⟩⟩⟩⟩⟩⟩
theorem okA : TabOK Tryz.prog tbA := by
  refine ⟨mixed, callsA, fun f ds r obs h => ?_, fun f args O r O' ks h => ?_⟩
  · simp only [tbA, libA] at h
    split at h
    · rename_i hf
      rw [Nat.beq_eq] at hf
      subst hf
      split at h
      · rename_i n
        split at h
        · rename_i x hx
          cases h
          have e := List.find?_some hx
          simp only [beq_iff_eq] at e
          have m := itoaT_ok x (List.mem_of_find?_eq_some hx)
          rw [e] at m
          have := itoa_ok m.2.1 m.2.2
          rw [m.1] at this
          exact this
        · cases h
      · cases h
    · split at h
      · rename_i hf
        rw [Nat.beq_eq] at hf
        subst hf
        split at h
        · rename_i n cells s
          split at h
          · rename_i hn
            rw [Nat.beq_eq] at hn
            split at h
            · rename_i b hb
              cases h
              unfold strsB at hb
              split at hb
              · rename_i hc
                cases hb
                simp only [Bool.and_eq_true, Nat.ble_eq, joinB] at hc
                exact join_ok hc.1.1 hn (by omega) (by omega)
              · cases hb
            · cases h
          · cases h
        · cases h
      · cases h
  · simp only [tbA, libMA] at h
    split at h
    · rename_i hf
      rw [Nat.beq_eq] at hf
      subst hf
      exact cloneM_ok h
    · cases h
set_option maxRecDepth 1000000
theorem awake_run : CallOK Tryz.prog 15 [] (.d (.val (.bool true))) [] := D7 (fr := true) okA 3000 (by kernel_rfl)
theorem law07_awake_ok (N : Nat) (r : Bool) (hrun : law07_awake N = some r) : CallOK Tryz.prog 15 [] (.d (Bo r)) [] := by
  cases hrun
  exact awake_run
end Go.Proofs.YtbndgoeahoadlaaGreatDoor
