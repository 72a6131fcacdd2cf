import Derived.Test.YtbndgoeahoadlaaDoorDsM
import Derived.Test.YtbndgoeahoadlaaDoorDsSh
import Derived.Test.YtbndgoeahoadlaaDoorExG
import Derived.KernelRfl
set_option linter.all false
namespace Go.Proofs.YtbndgoeahoadlaaDoor
open Go.PW Go.Sh
/-- The texts of the numbers that occur. -/
def itoaT : List (Int × ByteArray) := [(8, ⟨#[56]⟩), (2, ⟨#[50]⟩), ((-1), ⟨#[45, 49]⟩), (0, ⟨#[48]⟩), (12, ⟨#[49, 50]⟩), (1, ⟨#[49]⟩)]
theorem itoaT_ok : ∀ x ∈ itoaT, (⟨(Lib.itoa x.1).toArray⟩ : ByteArray) = x.2 ∧ -9223372036854775808 ≤ x.1 ∧ x.1 ≤ 9223372036854775807 := by
  simp only [itoaT, List.forall_mem_cons, Lib.itoa]
  refine ⟨?_, ?_, ?_, ?_, ?_, ?_, List.forall_mem_nil _⟩
  all_goals (refine ⟨?_, by decide, by decide⟩; simp [Lib.decDigits])
def strsB (l : List D) (s : ByteArray) : Option ByteArray := if l.all isS && Nat.ble l.length 1000 && Nat.ble (joinB (l.map strS) s).data.toList.length 1000 then some (joinB (l.map strS) s) else none
def libA : FuncId → List D → Option (V × Obs) := fun f ds =>
  if Nat.beq f 38 = true then match ds with
    | [.val (.int .i64 n)] => match itoaT.find? (fun x => x.1 == n) with
      | some x => some (.d (.val (.string x.2)), [])
      | none => none
    | _ => none
  else if Nat.beq f 40 = true then match ds with
    | [.list n cells, .val (.string s)] => if Nat.beq n cells.length = true then match strsB cells s with
        | some b => some (.d (.val (.string b)), [])
        | none => none
      else none
    | _ => none
  else none
def libMA : FuncId → List V → List Ob → Option (V × List Ob × List Nat) := fun f args O => if Nat.beq f 50 = true then cloneM args O else none
def fnsA : List Nat := [4, 8, 19, 20, 21, 22, 23, 26, 27, 28, 29, 35, 36, 37, 39, 41, 42, 45, 46, 47, 48, 49, 51, 52, 57, 58, 59, 60, 61, 62, 63, 64, 65, 66, 67, 71, 72, 73, 74, 75, 82, 83, 89, 90, 93]
def tbA : Tab := { fns := fnsA, mth := [50, 61, 63, 64, 65, 66, 67, 51, 62, 39], lib := libA, libM := libMA, tls := [(0, 16, 14), (1, 7, 3), (1, 8, 6), (1, 9, 5), (1, 10, 6), (1, 10, 8), (1, 11, 8), (1, 12, 10), (1, 15, 11), (1, 16, 14), (1, 18, 16), (1, 21, 16), (1, 22, 18), (1, 23, 21), (2, 11, 9), (2, 12, 7), (2, 24, 18), (3, 13, 12), (3, 22, 20), (3, 29, 24), (4, 9, 5), (4, 16, 13), (4, 22, 17), (5, 7, 4), (6, 8, 6), (6, 12, 10), (6, 25, 23), (7, 15, 13), (7, 17, 14), (7, 19, 16), (8, 8, 5), (8, 15, 13), (8, 16, 14), (8, 21, 19), (9, 10, 9), (9, 15, 13), (10, 15, 13), (11, 6, 4), (12, 8, 6), (17, 14, 11), (17, 15, 13), (18, 15, 13), (23, 15, 13)], mrs := [(4, 16, 13), (17, 14, 11)], fz := [19], ors := [] }
theorem callsA : ∀ f ∈ fnsA, ∀ args w, (callFunc f args).run Tryd.prog w = .ok (.enter f args) w :=
  List.forall_mem_cons.2 ⟨Tryd.call4, List.forall_mem_cons.2 ⟨Tryd.call8, List.forall_mem_cons.2 ⟨Tryd.call19, List.forall_mem_cons.2 ⟨Tryd.call20, List.forall_mem_cons.2 ⟨Tryd.call21, List.forall_mem_cons.2 ⟨Tryd.call22, List.forall_mem_cons.2 ⟨Tryd.call23, List.forall_mem_cons.2 ⟨Tryd.call26, List.forall_mem_cons.2 ⟨Tryd.call27, List.forall_mem_cons.2 ⟨Tryd.call28, List.forall_mem_cons.2 ⟨Tryd.call29, List.forall_mem_cons.2 ⟨Tryd.call35, List.forall_mem_cons.2 ⟨Tryd.call36, List.forall_mem_cons.2 ⟨Tryd.call37, List.forall_mem_cons.2 ⟨Tryd.call39, List.forall_mem_cons.2 ⟨Tryd.call41, List.forall_mem_cons.2 ⟨Tryd.call42, List.forall_mem_cons.2 ⟨Tryd.call45, List.forall_mem_cons.2 ⟨Tryd.call46, List.forall_mem_cons.2 ⟨Tryd.call47, List.forall_mem_cons.2 ⟨Tryd.call48, List.forall_mem_cons.2 ⟨Tryd.call49, List.forall_mem_cons.2 ⟨Tryd.call51, List.forall_mem_cons.2 ⟨Tryd.call52, List.forall_mem_cons.2 ⟨Tryd.call57, List.forall_mem_cons.2 ⟨Tryd.call58, List.forall_mem_cons.2 ⟨Tryd.call59, List.forall_mem_cons.2 ⟨Tryd.call60, List.forall_mem_cons.2 ⟨Tryd.call61, List.forall_mem_cons.2 ⟨Tryd.call62, List.forall_mem_cons.2 ⟨Tryd.call63, List.forall_mem_cons.2 ⟨Tryd.call64, List.forall_mem_cons.2 ⟨Tryd.call65, List.forall_mem_cons.2 ⟨Tryd.call66, List.forall_mem_cons.2 ⟨Tryd.call67, List.forall_mem_cons.2 ⟨Tryd.call71, List.forall_mem_cons.2 ⟨Tryd.call72, List.forall_mem_cons.2 ⟨Tryd.call73, List.forall_mem_cons.2 ⟨Tryd.call74, List.forall_mem_cons.2 ⟨Tryd.call75, List.forall_mem_cons.2 ⟨Tryd.call82, List.forall_mem_cons.2 ⟨Tryd.call83, List.forall_mem_cons.2 ⟨Tryd.call89, List.forall_mem_cons.2 ⟨Tryd.call90, List.forall_mem_cons.2 ⟨Tryd.call93, (List.forall_mem_nil _)⟩⟩⟩⟩⟩⟩⟩⟩⟩⟩⟩⟩⟩⟩⟩⟩⟩⟩⟩⟩⟩⟩⟩⟩⟩⟩⟩⟩⟩⟩⟩⟩⟩⟩⟩⟩⟩⟩⟩⟩⟩⟩⟩⟩⟩
theorem okA : TabOK Tryd.prog tbA := by
  refine ⟨mixed, callsA, fun f ds r obs h => ?_, fun f args O r O' ks h => ?_⟩
  · simp only [tbA, libA] at h
    split at h
    · rename_i hf
      rw [Nat.beq_eq] at hf
      subst hf
      split at h
      · rename_i n
        split at h
        · rename_i x hx
          cases h
          have e := List.find?_some hx
          simp only [beq_iff_eq] at e
          have m := itoaT_ok x (List.mem_of_find?_eq_some hx)
          rw [e] at m
          have := itoa_ok m.2.1 m.2.2
          rw [m.1] at this
          exact this
        · cases h
      · cases h
    · split at h
      · rename_i hf
        rw [Nat.beq_eq] at hf
        subst hf
        split at h
        · rename_i n cells s
          split at h
          · rename_i hn
            rw [Nat.beq_eq] at hn
            split at h
            · rename_i b hb
              cases h
              unfold strsB at hb
              split at hb
              · rename_i hc
                cases hb
                simp only [Bool.and_eq_true, Nat.ble_eq, joinB] at hc
                exact join_ok hc.1.1 hn (by omega) (by omega)
              · cases hb
            · cases h
          · cases h
        · cases h
      · cases h
  · simp only [tbA, libMA] at h
    split at h
    · rename_i hf
      rw [Nat.beq_eq] at hf
      subst hf
      exact cloneM_ok h
    · cases h
set_option maxRecDepth 1000000
theorem awake_run : CallOK Tryd.prog 4 [] (.d (.val (.bool true))) [] := CallOK.of_run (fr := true) okA 3000 (by kernel_rfl)
theorem downtilttop_accessAwake_ok (N : Nat) (r : Bool) (hrun : downtilttop_accessAwake N = some r) : CallOK Tryd.prog 4 [] (.d (Bo r)) [] := by
  cases hrun
  exact awake_run
end Go.Proofs.YtbndgoeahoadlaaDoor
