import Derived.Test.YtklejiafioalnaaNsM
import Derived.Test.YtklejiafioalnaaExG
import Derived.KernelRfl
set_option linter.all false
namespace Go.Proofs.Ytklejiafioalnaa
open Go.PW Go.Sh
noncomputable section
def libC : FuncId → List D → Option (V × Obs) := fun f ds => if Nat.beq f 107 = true then cloneI ds else none
def fnsA : List Nat := [11, 16, 18, 21, 32, 37, 39, 51, 52, 53, 54, 55, 56, 58, 59, 63, 65, 73, 74, 77, 78, 79, 80, 83, 84, 86, 87, 88, 89, 96, 99, 100, 101, 102, 103, 104, 105, 106, 111, 112, 113, 114, 115, 118, 119, 120, 122, 123, 124, 125, 126, 127, 128, 129, 130, 131, 132, 133, 134, 135, 136, 137, 138, 139, 140, 141, 142, 143, 144, 145, 146, 147]
def tlsA : List (Nat × Nat × Nat) := [(1, 8, 6), (1, 9, 5), (1, 10, 6), (1, 10, 7), (1, 10, 8), (1, 11, 6), (1, 11, 8), (1, 11, 9), (1, 12, 8), (1, 13, 9), (1, 13, 10), (1, 13, 11), (1, 14, 11), (1, 14, 12), (1, 16, 12), (1, 16, 14), (1, 19, 16), (1, 20, 17), (1, 20, 18), (2, 10, 7), (2, 28, 27), (3, 10, 7), (3, 13, 12), (3, 16, 13), (3, 16, 14), (3, 17, 13), (3, 22, 19), (4, 9, 5), (4, 9, 8), (4, 10, 7), (4, 11, 7), (4, 13, 9), (4, 17, 14), (5, 10, 8), (5, 10, 9), (5, 12, 11), (5, 16, 13), (5, 17, 13), (5, 18, 14), (6, 5, 3), (6, 9, 8), (6, 14, 12), (6, 15, 14), (6, 18, 16), (6, 19, 17), (6, 20, 17), (6, 24, 22), (7, 7, 6), (7, 11, 9), (7, 14, 13), (7, 15, 13), (7, 19, 17), (7, 36, 34), (8, 5, 4), (8, 6, 5), (8, 7, 5), (8, 13, 10), (8, 14, 13), (8, 15, 11), (8, 16, 14), (8, 19, 17), (8, 21, 19), (9, 4, 3), (9, 14, 12), (9, 23, 16), (9, 29, 27), (10, 9, 7), (10, 16, 14), (10, 20, 18), (11, 18, 16), (11, 20, 18), (11, 22, 18), (12, 9, 7), (12, 13, 9), (12, 13, 12), (13, 16, 13), (13, 35, 31), (15, 17, 13), (16, 13, 10), (17, 17, 13), (17, 18, 16), (18, 16, 14), (19, 17, 13), (20, 42, 40), (21, 16, 14), (22, 13, 10), (23, 18, 16), (27, 18, 16), (29, 12, 11), (31, 14, 13)]
def tbA : Tab := { fns := fnsA, mth := [63,104,122,131,132,133,135,136,137,138,142,144,145,146,147], lib := libC, tls := tlsA }
theorem callsA : ∀ f ∈ fnsA, ∀ args w, (callFunc f args).run Try.prog w = .ok (.enter f args) w :=
  List.forall_mem_cons.2 ⟨Try.call11, List.forall_mem_cons.2 ⟨Try.call16, List.forall_mem_cons.2 ⟨Try.call18, List.forall_mem_cons.2 ⟨Try.call21, List.forall_mem_cons.2 ⟨Try.call32, List.forall_mem_cons.2 ⟨Try.call37, List.forall_mem_cons.2 ⟨Try.call39, List.forall_mem_cons.2 ⟨Try.call51, List.forall_mem_cons.2 ⟨Try.call52, List.forall_mem_cons.2 ⟨Try.call53, List.forall_mem_cons.2 ⟨Try.call54, List.forall_mem_cons.2 ⟨Try.call55, List.forall_mem_cons.2 ⟨Try.call56, List.forall_mem_cons.2 ⟨Try.call58, List.forall_mem_cons.2 ⟨Try.call59, List.forall_mem_cons.2 ⟨Try.call63, List.forall_mem_cons.2 ⟨Try.call65, List.forall_mem_cons.2 ⟨Try.call73, List.forall_mem_cons.2 ⟨Try.call74, List.forall_mem_cons.2 ⟨Try.call77, List.forall_mem_cons.2 ⟨Try.call78, List.forall_mem_cons.2 ⟨Try.call79, List.forall_mem_cons.2 ⟨Try.call80, List.forall_mem_cons.2 ⟨Try.call83, List.forall_mem_cons.2 ⟨Try.call84, List.forall_mem_cons.2 ⟨Try.call86, List.forall_mem_cons.2 ⟨Try.call87, List.forall_mem_cons.2 ⟨Try.call88, List.forall_mem_cons.2 ⟨Try.call89, List.forall_mem_cons.2 ⟨Try.call96, List.forall_mem_cons.2 ⟨Try.call99, List.forall_mem_cons.2 ⟨Try.call100, List.forall_mem_cons.2 ⟨Try.call101, List.forall_mem_cons.2 ⟨Try.call102, List.forall_mem_cons.2 ⟨Try.call103, List.forall_mem_cons.2 ⟨Try.call104, List.forall_mem_cons.2 ⟨Try.call105, List.forall_mem_cons.2 ⟨Try.call106, List.forall_mem_cons.2 ⟨Try.call111, List.forall_mem_cons.2 ⟨Try.call112, List.forall_mem_cons.2 ⟨Try.call113, List.forall_mem_cons.2 ⟨Try.call114, List.forall_mem_cons.2 ⟨Try.call115, List.forall_mem_cons.2 ⟨Try.call118, List.forall_mem_cons.2 ⟨Try.call119, List.forall_mem_cons.2 ⟨Try.call120, List.forall_mem_cons.2 ⟨Try.call122, List.forall_mem_cons.2 ⟨Try.call123, List.forall_mem_cons.2 ⟨Try.call124, List.forall_mem_cons.2 ⟨Try.call125, List.forall_mem_cons.2 ⟨Try.call126, List.forall_mem_cons.2 ⟨Try.call127, List.forall_mem_cons.2 ⟨Try.call128, List.forall_mem_cons.2 ⟨Try.call129, List.forall_mem_cons.2 ⟨Try.call130, List.forall_mem_cons.2 ⟨Try.call131, List.forall_mem_cons.2 ⟨Try.call132, List.forall_mem_cons.2 ⟨Try.call133, List.forall_mem_cons.2 ⟨Try.call134, List.forall_mem_cons.2 ⟨Try.call135, List.forall_mem_cons.2 ⟨Try.call136, List.forall_mem_cons.2 ⟨Try.call137, List.forall_mem_cons.2 ⟨Try.call138, List.forall_mem_cons.2 ⟨Try.call139, List.forall_mem_cons.2 ⟨Try.call140, List.forall_mem_cons.2 ⟨Try.call141, List.forall_mem_cons.2 ⟨Try.call142, List.forall_mem_cons.2 ⟨Try.call143, List.forall_mem_cons.2 ⟨Try.call144, List.forall_mem_cons.2 ⟨Try.call145, List.forall_mem_cons.2 ⟨Try.call146, List.forall_mem_cons.2 ⟨Try.call147, (List.forall_mem_nil _)⟩⟩⟩⟩⟩⟩⟩⟩⟩⟩⟩⟩⟩⟩⟩⟩⟩⟩⟩⟩⟩⟩⟩⟩⟩⟩⟩⟩⟩⟩⟩⟩⟩⟩⟩⟩⟩⟩⟩⟩⟩⟩⟩⟩⟩⟩⟩⟩⟩⟩⟩⟩⟩⟩⟩⟩⟩⟩⟩⟩⟩⟩⟩⟩⟩⟩⟩⟩⟩⟩⟩⟩
theorem okA : TabOK Try.prog tbA := by
  refine ⟨mixed, callsA, fun f ds r obs h => ?_, fun f args O r O' ks h => by cases h⟩
  simp only [tbA, libC] at h
  split at h
  · rename_i hf
    rw [Nat.beq_eq] at hf
    subst hf
    exact cloneI_ok h
  · cases h
def netA : D := (.agg [(.list 3 [(.list 3 [(.val (.int .i64 0)), (.val (.int .i64 0)), (.val (.int .i64 0))]), (.list 3 [(.val (.int .i64 0)), (.val (.int .i64 50)), (.val (.int .i64 0))]), (.list 3 [(.val (.int .i64 0)), (.val (.int .i64 0)), (.val (.int .i64 0))])]), (.list 1 [(.val (.string ⟨#[97]⟩)), (.val (.int .i64 4)), (.val (.int .i64 0)), (.val (.int .i64 0)), (.val (.int .i64 30)), (.val (.int .i64 600)), (.val (.int .i64 10))]), (.list 2 [(.val (.int .i64 2)), (.val (.int .i64 1000)), (.val (.int .i64 8)), (.val (.int .i64 1300))]), (.val (.int .i64 200)), (.val (.int .i64 50)), (.val (.int .i64 (-900)))])
def chA : D := (.agg [(.val (.int .i64 4)), (.list 3 [(.val (.int .i64 0)), (.val (.int .i64 1)), (.val (.int .i64 1)), (.val (.int .i64 2)), (.val (.int .i64 2)), (.val (.int .i64 3))])])
def ptA : D := .agg [(.val (.int .i64 2)), (.val (.int .i64 2))]
def ptB : D := .agg [(.val (.int .i64 0)), (.val (.int .i64 1))]
def levA : D := .tup [(.val (.int .i64 (-900))), (.val (.int .i64 0))]
def levB : D := .tup [(.val (.int .i64 (-450))), (.val (.int .i64 0))]
def kinA : D := .tup [.list 4 [(.val (.int .i64 0)), (.val (.int .i64 1)), (.val (.int .i64 2)), (.val (.int .i64 0))], (.val (.int .i64 3)), (.val (.int .i64 0))]
def cliA : D := .tup [.list 3 [(.val (.int .i64 0)), (.val (.int .i64 1)), (.val (.int .i64 2))], (.val (.int .i64 0))]
set_option maxRecDepth 1000000
theorem levA_ok : CallOK Try.prog 51 [netA, (.val (.int .i64 0)), ptA] (.d levA) [] := CallOK.of_run (fr := true) okA 3000 (by kernel_rfl)
theorem levB_ok : CallOK Try.prog 51 [netA, (.val (.int .i64 0)), ptB] (.d levB) [] := CallOK.of_run (fr := true) okA 3000 (by kernel_rfl)
theorem kinA_ok : CallOK Try.prog 21 [chA] (.d kinA) [] := CallOK.of_run (fr := true) okA 3000 (by kernel_rfl)
theorem cliA_ok : CallOK Try.prog 16 [chA] (.d cliA) [] := CallOK.of_run (fr := true) okA 3000 (by kernel_rfl)
def libB : FuncId → List D → Option (V × Obs) := fun f ds =>
  if Nat.beq f 51 = true then (if sameD.sameDs ds [netA, (.val (.int .i64 0)), ptA] = true then some (.d levA, []) else if sameD.sameDs ds [netA, (.val (.int .i64 0)), ptB] = true then some (.d levB, []) else none)
  else if Nat.beq f 21 = true then (if sameD.sameDs ds [chA] = true then some (.d kinA, []) else none)
  else if Nat.beq f 16 = true then (if sameD.sameDs ds [chA] = true then some (.d cliA, []) else none)
  else none
def tbB : Tab := { fns := fnsA, mth := [], lib := libB, tls := tlsA }
theorem okB : TabOK Try.prog tbB := by
  refine ⟨mixed, callsA, fun f ds r obs h => ?_, fun f args O r O' ks h => by cases h⟩
  simp only [tbB, libB] at h
  repeat' split at h
  all_goals first
    | (cases h; done)
    | (rename_i hf hs
       rw [Nat.beq_eq] at hf
       have e := sameDs_eq _ _ hs
       subst hf e
       cases h
       first | exact levA_ok | exact kinA_ok | exact cliA_ok)
    | (rename_i hf _ hs
       rw [Nat.beq_eq] at hf
       have e := sameDs_eq _ _ hs
       subst hf e
       cases h
       first | exact levB_ok)
theorem awake_run : CallOK Try.prog 11 [] (.d (.val (.bool true))) [] := CallOK.of_run (fr := true) okB 3000 (by kernel_rfl)
theorem law09_awake_ok (N : Nat) (r : Bool) (hrun : law09_awake N = some r) : CallOK Try.prog 11 [] (.d (Bo r)) [] := by
  cases hrun
  exact awake_run
end
end Go.Proofs.Ytklejiafioalnaa
