import Derived.Test.YtbndgoeahoadlaaGreatDoorPwU
set_option linter.all false
namespace Go.PW
open Go.RowKit

theorem seg_all {α : Type} {l : List α} {n : Nat} (h : n = l.length) : seg l 0 n = l := by subst h; simp [seg]
theorem seg_mapV (t : List Int) : seg ((t.map I).map V.d) 0 t.length = (t.map I).map V.d := seg_all (by simp)
theorem m8 {α : Type} (s : Nat) (f : α → List D) (hf : ∀ x, (f x).length = s) (t : List α) : (t.flatMap f).length = t.length * s := by
 induction t with
 | nil => simp
 | cons a t ih => simp [List.flatMap_cons, ih, hf, Nat.succ_mul, Nat.add_comm]
theorem drop_flatMap {α : Type} (s : Nat) (f : α → List D) (hf : ∀ x, (f x).length = s) : ∀ (t : List α) (k : Nat), (t.flatMap f).drop (k * s) = (t.drop k).flatMap f
 | [], k => by simp
 | a :: t, 0 => by simp
 | a :: t, k + 1 => by
  rw [List.flatMap_cons, Nat.succ_mul, Nat.add_comm (k * s) s, ← List.drop_drop, List.drop_left' (hf a), drop_flatMap s f hf t k, List.drop_succ_cons]
theorem take_flatMap {α : Type} (s : Nat) (f : α → List D) (hf : ∀ x, (f x).length = s) : ∀ (t : List α) (k : Nat), (t.flatMap f).take (k * s) = (t.take k).flatMap f
 | [], k => by simp
 | a :: t, 0 => by simp
 | a :: t, k + 1 => by
  rw [List.flatMap_cons, Nat.succ_mul, Nat.add_comm (k * s) s, List.take_add, List.take_left' (hf a), List.drop_left' (hf a), take_flatMap s f hf t k, List.take_succ_cons, List.flatMap_cons]
theorem sub_eq_seg (cells : List D) (k n : Nat) (h : k + n ≤ cells.length) : sub cells k n = seg cells k n := by
 refine List.ext_getElem (by simp [seg]; omega) fun j h1 h2 => ?_
 rw [sub_length] at h1
 simp [sub, seg, List.getD_eq_getElem?_getD, show k + j < cells.length by omega]
theorem sub_el {α : Type} [Inhabited α] (s : Nat) (f : α → List D) (hf : ∀ x, (f x).length = s) (t : List α) (k : Nat) (h : k < t.length) : sub (t.flatMap f) (k * s) s = f (t.getD k default) := by
 have h1 : (k + 1) * s ≤ t.length * s := Nat.mul_le_mul_right s h
 rw [Nat.succ_mul] at h1
 rw [sub_eq_seg _ _ _ (by rw [m8 s f hf]; omega), seg, drop_flatMap s f hf]
 have h2 := take_flatMap s f hf (t.drop k) 1
 rw [Nat.one_mul] at h2
 rw [h2, List.drop_eq_getElem_cons h, List.take_succ_cons, List.take_zero, List.flatMap_cons, List.flatMap_nil, List.append_nil]
 simp [List.getD_eq_getElem?_getD, h]

theorem allD_mapV (l : List D) : (l.map V.d).all isD = true := all_isD_map l

def okAll (objs : List Ob) (k : Nat) (l : List V) : Prop := ∀ v ∈ l, okD objs k v
theorem okAll_nil (objs : List Ob) (k : Nat) : okAll objs k [] = True := by simp [okAll]
theorem okAll_cons (objs : List Ob) (k : Nat) (v : V) (l : List V) : okAll objs k (v :: l) = (okD objs k v ∧ okAll objs k l) := by simp [okAll]
theorem okAll_append (objs : List Ob) (k : Nat) (l l' : List V) : okAll objs k (l ++ l') = (okAll objs k l ∧ okAll objs k l') := by
 simp only [okAll, List.mem_append, eq_iff_iff]
 exact ⟨fun h => ⟨fun v hv => h v (.inl hv), fun v hv => h v (.inr hv)⟩, fun h v hv => hv.elim (h.1 v) (h.2 v)⟩
theorem okD_dd (objs : List Ob) (k : Nat) (x : D) : okD objs k (.d x) = True := by cases k <;> rfl
theorem okAll_mapD (objs : List Ob) (k : Nat) (l : List D) : okAll objs k (l.map V.d) = True := by simp [okAll, okD_dd]
theorem okAll_segD (objs : List Ob) (k : Nat) (l : List D) (a n : Nat) : okAll objs k (seg (l.map V.d) a n) = True := by
 simp only [okAll, seg, eq_iff_iff, iff_true]
 intro v hv
 obtain ⟨x, _, rfl⟩ := List.mem_map.1 (List.mem_of_mem_drop (List.mem_of_mem_take hv))
 rw [okD_dd]; trivial
theorem okAll_segD1 (objs : List Ob) (k : Nat) (l : List D) (x : D) (a n : Nat) : okAll objs k (seg (l.map V.d ++ [V.d x]) a n) = True := by
 rw [show l.map V.d ++ [V.d x] = (l ++ [x]).map V.d by simp]; exact okAll_segD objs k _ a n
theorem okAll_segD2 (objs : List Ob) (k : Nat) (l m : List D) (a n : Nat) : okAll objs k (seg (l.map V.d ++ m.map V.d) a n) = True := by
 rw [← List.map_append]; exact okAll_segD objs k _ a n
attribute [go_sem] okAll_segD1 okAll_segD2
theorem okAll_dropD (objs : List Ob) (k : Nat) (l : List D) (a : Nat) : okAll objs k ((l.map V.d).drop a) = True := by
 simp only [okAll, eq_iff_iff, iff_true]
 intro v hv
 obtain ⟨x, _, rfl⟩ := List.mem_map.1 (List.mem_of_mem_drop hv)
 rw [okD_dd]; trivial
theorem okD_own (objs : List Ob) (k i off n sz : Nat) : okD objs (k + 1) (.own i off n sz) = (off + n * sz ≤ (cellsOf objs i).length ∧ okAll objs k (seg (cellsOf objs i) off (n * sz))) := rfl
theorem okD_ptr (objs : List Ob) (k i off : Nat) : okD objs (k + 1) (.ptr i off) = okAll objs k ((cellsOf objs i).drop off) := rfl
theorem okD_clo (objs : List Ob) (k f : Nat) (caps : List V) : okD objs (k + 1) (.clo f caps) = okAll objs k caps := rfl
theorem okD_agg (objs : List Ob) (k : Nat) (l : List V) : okD objs (k + 1) (.agg l) = okAll objs k l := rfl
theorem okD_tup (objs : List Ob) (k : Nat) (l : List V) : okD objs (k + 1) (.tup l) = okAll objs k l := rfl
theorem d9 {objs : List Ob} {k : Nat} {l : List V} (h : okAll objs k l) : ∀ v ∈ l, okD objs k v := h

def toDs (objs : List Ob) (k : Nat) (l : List V) : List D := l.map (toD objs k)
theorem map_toDs (objs : List Ob) (k : Nat) (l : List V) : l.map (toD objs k) = toDs objs k l := rfl
theorem toDs_nil (objs : List Ob) (k : Nat) : toDs objs k [] = [] := rfl
theorem toDs_cons (objs : List Ob) (k : Nat) (v : V) (l : List V) : toDs objs k (v :: l) = toD objs k v :: toDs objs k l := rfl
theorem toDs_append (objs : List Ob) (k : Nat) (l l' : List V) : toDs objs k (l ++ l') = toDs objs k l ++ toDs objs k l' := by simp [toDs]
theorem toDs_mapD (objs : List Ob) (k : Nat) (l : List D) : toDs objs (k + 1) (l.map V.d) = l.map nz := by
 simp only [toDs, List.map_map]; exact List.map_congr_left fun x _ => toD_d objs k x
theorem toDs_seg (objs : List Ob) (k : Nat) (l : List V) (a n : Nat) : toDs objs k (seg l a n) = seg (toDs objs k l) a n := by simp [toDs, seg, List.map_drop, List.map_take]
theorem toDs_drop (objs : List Ob) (k : Nat) (l : List V) (a : Nat) : toDs objs k (l.drop a) = (toDs objs k l).drop a := by simp [toDs, List.map_drop]
theorem toD_own (objs : List Ob) (k i off n sz : Nat) : toD objs (k + 1) (.own i off n sz) = .list n (toDs objs k (seg (cellsOf objs i) off (n * sz))) := rfl
theorem toD_ptr (objs : List Ob) (k i off : Nat) : toD objs (k + 1) (.ptr i off) = .ref (toDs objs k ((cellsOf objs i).drop off)) := rfl
theorem toD_clo (objs : List Ob) (k f : Nat) (caps : List V) : toD objs (k + 1) (.clo f caps) = .clo f (toDs objs k caps) := rfl
theorem toD_agg (objs : List Ob) (k : Nat) (l : List V) : toD objs (k + 1) (.agg l) = .agg (toDs objs k l) := rfl
theorem toD_tup (objs : List Ob) (k : Nat) (l : List V) : toD objs (k + 1) (.tup l) = .tup (toDs objs k l) := rfl
theorem map_asD (l : List D) : (l.map V.d).map asD = l.map nz := by rw [List.map_map]; rfl
theorem map_nz_I (t : List Int) : (t.map I).map nz = t.map I := by rw [List.map_map]; rfl
theorem map_nz_Bo (t : List Bool) : (t.map Bo).map nz = t.map Bo := by rw [List.map_map]; rfl
theorem map_nz_Sx (t : List ByteArray) : (t.map Sx).map nz = t.map Sx := by rw [List.map_map]; rfl
theorem map_nz_L (t : List (List Int)) : (t.map L).map nz = t.map L := by rw [List.map_map]; rfl
theorem F1 {α : Type} {f : α → List D} (h : ∀ x, (f x).map nz = f x) (t : List α) : (t.flatMap f).map nz = t.flatMap f := by
 rw [List.map_flatMap]; exact congrArg (fun g => t.flatMap g) (funext h)
theorem seg_mapD {α β : Type} (f : α → β) (t : List α) (a n : Nat) : seg (t.map f) a n = ((t.drop a).take n).map f := by simp [seg, List.map_drop, List.map_take]
theorem take_len {α : Type} (t : List α) : t.take t.length = t := List.take_length
theorem seg_flat {α : Type} (s : Nat) (f : α → List D) (hf : ∀ x, (f x).length = s) (t : List α) : seg (t.flatMap f) 0 (t.length * s) = t.flatMap f := seg_all (m8 s f hf t).symm
theorem take_mapF {α β : Type} (f : α → β) (t : List α) (n : Nat) : (t.map f).take n = (t.take n).map f := (List.map_take).symm
theorem drop_mapF {α β : Type} (f : α → β) (t : List α) (n : Nat) : (t.map f).drop n = (t.drop n).map f := (List.map_drop).symm
theorem take_flat {α : Type} {s : Nat} {f : α → List D} {n : Nat} (t : List α) (hf : ∀ x, (f x).length = s) (hn : n = t.length * s) : (t.flatMap f).take n = t.flatMap f := by
 subst hn; rw [take_flatMap s f hf, take_len]
theorem list_congr {n : Nat} {t : List D} {m : Nat} (h : n = m) : D.list n t = D.list m t := by rw [h]
theorem rep_I (n : Nat) (z : Int) : List.replicate n (V.d (.val (.int .i64 z))) = ((List.replicate n z).map I).map V.d := by simp
theorem rep_Bo (n : Nat) (z : Bool) : List.replicate n (V.d (.val (.bool z))) = ((List.replicate n z).map Bo).map V.d := by simp
theorem ite_or_not (a b : Bool) : (if a = false then true else b) = (!a || b) := by cases a <;> rfl
theorem ite_and_not (a b : Bool) : (if a = false then b else false) = (!a && b) := by cases a <;> rfl
theorem take_set_rep {α : Type} (n k : Nat) (x y : α) : ((List.replicate n x).set k y).take n = (List.replicate n x).set k y := List.take_of_length_le (by simp)
theorem take_set_self {α : Type} (l : List α) (k : Nat) (y : α) : (l.set k y).take l.length = l.set k y := List.take_of_length_le (by simp)
theorem map_frz_mapD (objs : List Ob) (i : Nat) (l : List D) : (l.map V.d).map (V.frz objs i) = l.map V.d := by
 rw [List.map_map]; exact List.map_congr_left fun x _ => by simp only [Function.comp, V.frz]
attribute [go_sem] map_frz_mapD take_set_rep take_set_self
theorem shr1 (x : Int) : x.fdiv (2 ^ min 1 64) = shrI x 1 := rfl
theorem shl1 (x : Int) : w64 (x * 2 ^ min 1 64) = shlI x 1 := rfl

def sb0 := And.intro @Bool.and_true <| And.intro @Bool.true_and <| And.intro @Bool.and_false <| And.intro @Bool.false_and <| And.intro @Bool.or_true <| And.intro @Bool.true_or <| And.intro @Bool.or_false <| And.intro @Bool.false_or <| And.intro @Bool.not_true <| And.intro @Bool.not_false <| @Bool.false_eq_true
def sw0 := And.intro @and_assoc <| And.intro @wrap_w64 <| And.intro @wrap_wu64 <| And.intro @wrap_wu8 <| And.intro @wrap_wu32 <| And.intro @wrap_wi32 <| And.intro @bits_i64 <| And.intro @bits_u64 <| And.intro @bit_and <| And.intro @bit_or <| And.intro @bit_xor <| And.intro @shr1 <| And.intro @shl1 <| And.intro @shr_w <| And.intro @shl_w <| And.intro @rep_I <| And.intro @rep_Bo <| And.intro @seg_mapV <| And.intro @allOne_mapI <| And.intro @ite_or_not <| And.intro @ite_and_not <| And.intro @take_mapF <| And.intro @drop_mapF <| And.intro @Nat.sub_zero <| And.intro @Option.map_some.{0,0} <| @Option.map_none.{0,0}
def sw1 := And.intro @map_toDs <| And.intro @toDs_nil <| And.intro @toDs_cons <| And.intro @toDs_append <| And.intro @toDs_mapD <| And.intro @toDs_seg <| And.intro @toDs_drop <| And.intro @toD_own <| And.intro @toD_ptr <| And.intro @toD_clo <| And.intro @toD_agg <| And.intro @toD_tup <| And.intro @map_nz_I <| And.intro @map_nz_Bo <| And.intro @map_nz_Sx <| And.intro @map_nz_L <| And.intro @seg_mapD <| And.intro @seg_flat <| And.intro @toD_d <| And.intro @nz_list <| And.intro @nz_int <| And.intro @nz_bool <| And.intro @nz_str <| And.intro @nz_agg <| And.intro @nz_tup <| And.intro @nz_clo <| And.intro @nz_ref <| And.intro @nz_nil <| And.intro @take_len <| And.intro @take_mapF <| And.intro @drop_mapF <| And.intro @List.length_set.{0} <| And.intro @List.length_replicate.{0} <| @List.drop_zero.{0}
def sw2 := And.intro @okAll_nil <| And.intro @okAll_cons <| And.intro @okAll_append <| And.intro @okD_dd <| And.intro @okAll_mapD <| And.intro @okAll_segD <| And.intro @okAll_dropD <| And.intro @okD_own <| And.intro @okD_ptr <| And.intro @okD_clo <| And.intro @okD_agg <| @okD_tup
end Go.PW
