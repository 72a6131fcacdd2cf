import Derived.Test.YtklejiafioalnaaNsTy
import Derived.Test.YtklejiafioalnaaPwX
import Derived.Test.YtklejiafioalnaaPwF3
import Derived.Test.YtklejiafioalnaaNsH
set_option linter.all false
namespace Go.Proofs.Ytklejiafioalnaa
open Go.PW Go.Sh

set_option maxRecDepth 20000
set_option maxHeartbeats 8000000
set_option maxRecDepth 20000 in
theorem slices_Clone_ii_ok (N : Nat) (s : List Int) (r : List Int) (H : slices_Clone_ii N s = some r) : CallOK Try.prog 107 [(L s)] (.own 0 0 r.length 1) [(r.map I, 3)] := by
 refine CallOK.of_PW Try.func107 rfl (by rw [Try.results107]) Try.ntmps107 Try.call107 ?_
 change PW _ _ _ _ _
 try simp only [go_sem, simprocAttr]
 unfold slices_Clone_ii at H
 obtain ⟨c1, H⟩ := chk_some H
 obtain rfl := Option.some.inj H
 refine PW.seq ?_
 refine PW.regionK fun K hK => OW.run [0] ?_
 simp only [go_sem, simprocAttr, sw0]
 refine OW.nil (hK _ ?_)
 refine PW.seq ?_
 refine PW.seq ?_
 refine PW.regionK fun K hK => ?_
 refine OW.step rfl ?_
 simp only [go_sem, simprocAttr, sw0]
 refine OW.binNil rfl rfl se25 rfl rfl (by (simp only [go_sem, Nat.reduceLT])) ?_
 intro b hb
 refine OW.run [0, 4] ?_
 simp only [go_sem, simprocAttr, sw0]
 refine OW.nil (hK _ ?_)
 refine PW.cond rfl (fun h => ?_) (fun h => ?_)
 have hs : s = [] := by simpa using hb h
 subst hs
 refine PW.seq ?_
 refine PW.regionK fun K hK => OW.run [2] ?_
 try simp only [go_sem, simprocAttr]
 refine OW.nil (hK _ ?_)
 refine PW.ret ?_
 change PW.Ends _ _ _ _ _ _
 refine PW.Ends.intro (.inr rfl) ?_
 try simp only [go_sem, simprocAttr]
 exact RetOK.nilOwn
 refine PW.skip ?_
 refine PW.seq ?_
 refine PW.regionK fun K hK => OW.run [2] ?_
 try simp only [go_sem, simprocAttr]
 repeat (refine And.intro (by omega) ?_)
 refine OW.nil (hK _ ?_)
 refine PW.ret ?_
 change PW.Ends _ _ _ _ _ _
 refine PW.Ends.intro (.inr rfl) ?_
 try simp only [go_sem, simprocAttr]
 refine RetOK.own 0 _ _ rfl ?_
 rfl

/-- Nothing is copied as no entries are. -/
theorem clone_nil {P : Program} {f : FuncId} {r : V} {obs : Obs} (h : CallOK P f [.list 0 []] r obs) : CallOK P f [.val (.slice none 0 0)] r obs := by
 refine ⟨h.1, fun w S vs hgi hvs => h.2 w S vs hgi ?_⟩
 simp only [RepAll] at hvs ⊢
 obtain ⟨v, vs', rfl, hv, h0⟩ := hvs
 simp only [RepD] at hv
 refine ⟨v, vs', rfl, ?_, h0⟩
 simp only [RepD]
 exact ⟨none, 0, hv, Nat.le_refl _, .inl (by simp)⟩
def isI : D → Bool
 | .val (.int .i64 _) => true
 | _ => false
theorem allI : ∀ {l : List D}, l.all isI = true → ∃ s : List Int, l = s.map I
 | [], _ => ⟨[], rfl⟩
 | x :: l, h => by
  simp only [List.all_cons, Bool.and_eq_true] at h
  obtain ⟨s, rfl⟩ := allI h.2
  obtain ⟨n, rfl⟩ : ∃ n, x = I n := by
   have h1 := h.1
   unfold isI at h1
   split at h1
   · exact ⟨_, rfl⟩
   · cases h1
  exact ⟨n :: s, rfl⟩
def cloneI : List D → Option (V × Obs)
 | [.list n cells] => if cells.all isI && Nat.beq n cells.length && Nat.ble n 1000 then some (.own 0 0 n 1, [(cells, 3)]) else none
 | [.val (.slice none 0 0)] => some (.own 0 0 0 1, [([], 3)])
 | _ => none
theorem cloneI_ok {ds : List D} {r : V} {obs : Obs} (h : cloneI ds = some (r, obs)) : CallOK Try.prog 107 ds r obs := by
 unfold cloneI at h
 split at h
 rename_i n cells
 split at h
 rename_i hc
 simp only [Bool.and_eq_true, Nat.beq_eq, Nat.ble_eq] at hc
 obtain ⟨⟨h1, h2⟩, h3⟩ := hc
 obtain ⟨s, rfl⟩ := allI h1
 cases h
 have e : n = s.length := by rw [h2]; simp
 subst e
 have := slices_Clone_ii_ok 0 s s (by unfold slices_Clone_ii chk; rw [if_pos (by omega)])
 exact this
 cases h
 cases h
 exact clone_nil (slices_Clone_ii_ok 0 [] [] (by unfold slices_Clone_ii chk; rw [if_pos (by simp)]))
 cases h
end Go.Proofs.Ytklejiafioalnaa
