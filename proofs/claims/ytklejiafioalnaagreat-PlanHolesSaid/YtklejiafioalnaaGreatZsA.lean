import Derived.Test.YtklejiafioalnaaGreatZsM
import Derived.Test.YtklejiafioalnaaGreatExG
import Derived.KernelRfl
set_option linter.all false
namespace Go.Proofs.YtklejiafioalnaaGreat
open Go.PW Go.Sh
noncomputable section
def libC : FuncId → List D → Option (V × Obs) := fun f ds => if Nat.beq f 82 = true then cloneI ds else none
def fnsA : List Nat := [10, 22, 24, 45, 46, 47, 48, 50, 51, 52, 53, 54, 56, 58, 64, 65, 68, 72, 73, 78, 85, 86, 87, 88, 95, 96, 97, 98, 99, 101, 102, 103, 104, 105, 106, 107, 108, 109, 110, 111, 112, 115, 116, 117, 119, 120, 121, 122, 123, 124, 125, 126, 127, 128, 129, 130, 131, 132, 133, 134, 135, 136, 137, 138, 139, 140, 141, 142, 143, 144, 145, 146]
def tlsA : List (Nat × Nat × Nat) := [(1, 8, 6), (1, 10, 6), (1, 10, 7), (1, 11, 6), (1, 11, 8), (1, 11, 9), (1, 12, 8), (1, 13, 9), (1, 13, 10), (1, 13, 11), (1, 14, 11), (1, 14, 12), (1, 16, 12), (1, 16, 14), (1, 19, 16), (1, 20, 17), (2, 6, 5), (2, 10, 7), (2, 12, 9), (2, 14, 13), (2, 28, 27), (3, 10, 7), (3, 13, 12), (3, 16, 13), (3, 16, 14), (3, 17, 13), (3, 22, 19), (4, 8, 6), (4, 10, 7), (4, 11, 7), (4, 17, 14), (5, 10, 7), (5, 10, 9), (5, 16, 13), (5, 17, 13), (5, 18, 14), (5, 20, 17), (6, 9, 7), (6, 9, 8), (6, 11, 10), (6, 14, 12), (6, 15, 14), (6, 16, 15), (6, 18, 16), (6, 19, 17), (6, 20, 17), (6, 24, 22), (7, 7, 6), (7, 14, 12), (7, 14, 13), (7, 19, 17), (7, 23, 21), (8, 6, 5), (8, 7, 5), (8, 9, 7), (8, 13, 10), (8, 15, 11), (8, 16, 14), (8, 21, 19), (9, 4, 3), (9, 14, 12), (9, 23, 16), (9, 29, 27), (10, 6, 4), (10, 9, 7), (10, 12, 7), (10, 14, 12), (10, 16, 14), (10, 20, 18), (11, 14, 12), (11, 18, 16), (11, 20, 18), (12, 9, 7), (12, 13, 9), (12, 14, 12), (13, 12, 11), (13, 16, 13), (14, 12, 11), (15, 17, 13), (15, 24, 23), (16, 12, 10), (16, 13, 10), (17, 11, 8), (17, 14, 12), (17, 17, 13), (17, 18, 16), (18, 16, 14), (19, 14, 13), (19, 17, 13), (20, 42, 40), (21, 16, 14), (22, 13, 10), (23, 18, 16), (27, 18, 16), (28, 6, 5), (29, 9, 6), (30, 6, 5), (30, 17, 16), (31, 5, 3)]
def tbA : Tab := { fns := fnsA, mth := [86,96,115,127,128,129,131,132,133,134,141,143,144,145,146], lib := libC, tls := tlsA }
theorem callsA : ∀ f ∈ fnsA, ∀ args w, (callFunc f args).run Tryz.prog w = .ok (.enter f args) w :=
  List.forall_mem_cons.2 ⟨Tryz.call10, List.forall_mem_cons.2 ⟨Tryz.call22, List.forall_mem_cons.2 ⟨Tryz.call24, List.forall_mem_cons.2 ⟨Tryz.call45, List.forall_mem_cons.2 ⟨Tryz.call46, List.forall_mem_cons.2 ⟨Tryz.call47, List.forall_mem_cons.2 ⟨Tryz.call48, List.forall_mem_cons.2 ⟨Tryz.call50, List.forall_mem_cons.2 ⟨Tryz.call51, List.forall_mem_cons.2 ⟨Tryz.call52, List.forall_mem_cons.2 ⟨Tryz.call53, List.forall_mem_cons.2 ⟨Tryz.call54, List.forall_mem_cons.2 ⟨Tryz.call56, List.forall_mem_cons.2 ⟨Tryz.call58, List.forall_mem_cons.2 ⟨Tryz.call64, List.forall_mem_cons.2 ⟨Tryz.call65, List.forall_mem_cons.2 ⟨Tryz.call68, List.forall_mem_cons.2 ⟨Tryz.call72, List.forall_mem_cons.2 ⟨Tryz.call73, List.forall_mem_cons.2 ⟨Tryz.call78, List.forall_mem_cons.2 ⟨Tryz.call85, List.forall_mem_cons.2 ⟨Tryz.call86, List.forall_mem_cons.2 ⟨Tryz.call87, List.forall_mem_cons.2 ⟨Tryz.call88, List.forall_mem_cons.2 ⟨Tryz.call95, List.forall_mem_cons.2 ⟨Tryz.call96, List.forall_mem_cons.2 ⟨Tryz.call97, List.forall_mem_cons.2 ⟨Tryz.call98, List.forall_mem_cons.2 ⟨Tryz.call99, List.forall_mem_cons.2 ⟨Tryz.call101, List.forall_mem_cons.2 ⟨Tryz.call102, List.forall_mem_cons.2 ⟨Tryz.call103, List.forall_mem_cons.2 ⟨Tryz.call104, List.forall_mem_cons.2 ⟨Tryz.call105, List.forall_mem_cons.2 ⟨Tryz.call106, List.forall_mem_cons.2 ⟨Tryz.call107, List.forall_mem_cons.2 ⟨Tryz.call108, List.forall_mem_cons.2 ⟨Tryz.call109, List.forall_mem_cons.2 ⟨Tryz.call110, List.forall_mem_cons.2 ⟨Tryz.call111, List.forall_mem_cons.2 ⟨Tryz.call112, List.forall_mem_cons.2 ⟨Tryz.call115, List.forall_mem_cons.2 ⟨Tryz.call116, List.forall_mem_cons.2 ⟨Tryz.call117, List.forall_mem_cons.2 ⟨Tryz.call119, List.forall_mem_cons.2 ⟨Tryz.call120, List.forall_mem_cons.2 ⟨Tryz.call121, List.forall_mem_cons.2 ⟨Tryz.call122, List.forall_mem_cons.2 ⟨Tryz.call123, List.forall_mem_cons.2 ⟨Tryz.call124, List.forall_mem_cons.2 ⟨Tryz.call125, List.forall_mem_cons.2 ⟨Tryz.call126, List.forall_mem_cons.2 ⟨Tryz.call127, List.forall_mem_cons.2 ⟨Tryz.call128, List.forall_mem_cons.2 ⟨Tryz.call129, List.forall_mem_cons.2 ⟨Tryz.call130, List.forall_mem_cons.2 ⟨Tryz.call131, List.forall_mem_cons.2 ⟨Tryz.call132, List.forall_mem_cons.2 ⟨Tryz.call133, List.forall_mem_cons.2 ⟨Tryz.call134, List.forall_mem_cons.2 ⟨Tryz.call135, List.forall_mem_cons.2 ⟨Tryz.call136, List.forall_mem_cons.2 ⟨Tryz.call137, List.forall_mem_cons.2 ⟨Tryz.call138, List.forall_mem_cons.2 ⟨Tryz.call139, List.forall_mem_cons.2 ⟨Tryz.call140, List.forall_mem_cons.2 ⟨Tryz.call141, List.forall_mem_cons.2 ⟨Tryz.call142, List.forall_mem_cons.2 ⟨Tryz.call143, List.forall_mem_cons.2 ⟨Tryz.call144, List.forall_mem_cons.2 ⟨Tryz.call145, List.forall_mem_cons.2 ⟨Tryz.call146, (List.forall_mem_nil _)⟩⟩⟩⟩⟩⟩⟩⟩⟩⟩⟩⟩⟩⟩⟩⟩⟩⟩⟩⟩⟩⟩⟩⟩⟩⟩⟩⟩⟩⟩⟩⟩⟩⟩⟩⟩⟩⟩⟩⟩⟩⟩⟩⟩⟩⟩⟩⟩⟩⟩⟩⟩⟩⟩⟩⟩⟩⟩⟩⟩⟩⟩⟩⟩⟩⟩⟩⟩⟩⟩⟩⟩
theorem okA : TabOK Tryz.prog tbA := by
  refine ⟨mixed, callsA, fun f ds r obs h => ?_, fun f args O r O' ks h => by cases h⟩
  simp only [tbA, libC] at h
  split at h
  · rename_i hf
    rw [Nat.beq_eq] at hf
    subst hf
    exact cloneI_ok h
  · cases h
def netA : D := (.agg [(.list 3 [(.list 3 [(.val (.int .i64 0)), (.val (.int .i64 0)), (.val (.int .i64 0))]), (.list 3 [(.val (.int .i64 0)), (.val (.int .i64 50)), (.val (.int .i64 0))]), (.list 3 [(.val (.int .i64 0)), (.val (.int .i64 0)), (.val (.int .i64 0))])]), (.list 1 [(.val (.string ⟨#[97]⟩)), (.val (.int .i64 4)), (.val (.int .i64 0)), (.val (.int .i64 0)), (.val (.int .i64 30)), (.val (.int .i64 600)), (.val (.int .i64 10))]), (.list 2 [(.val (.int .i64 2)), (.val (.int .i64 1000)), (.val (.int .i64 8)), (.val (.int .i64 1300))]), (.val (.int .i64 200)), (.val (.int .i64 50)), (.val (.int .i64 (-900)))])
def chA : D := (.agg [(.val (.int .i64 4)), (.list 3 [(.val (.int .i64 0)), (.val (.int .i64 1)), (.val (.int .i64 1)), (.val (.int .i64 2)), (.val (.int .i64 2)), (.val (.int .i64 3))])])
def ptA : D := .agg [(.val (.int .i64 2)), (.val (.int .i64 2))]
def ptB : D := .agg [(.val (.int .i64 0)), (.val (.int .i64 1))]
def levA : D := .tup [(.val (.int .i64 (-900))), (.val (.int .i64 0))]
def levB : D := .tup [(.val (.int .i64 (-450))), (.val (.int .i64 0))]
def kinA : D := .tup [.list 4 [(.val (.int .i64 0)), (.val (.int .i64 1)), (.val (.int .i64 2)), (.val (.int .i64 0))], (.val (.int .i64 3)), (.val (.int .i64 0))]
def cliA : D := .tup [.list 3 [(.val (.int .i64 0)), (.val (.int .i64 1)), (.val (.int .i64 2))], (.val (.int .i64 0))]
set_option maxRecDepth 1000000
theorem levA_ok : CallOK Tryz.prog 24 [netA, (.val (.int .i64 0)), ptA] (.d levA) [] := CallOK.of_run (fr := true) okA 3000 (by kernel_rfl)
theorem levB_ok : CallOK Tryz.prog 24 [netA, (.val (.int .i64 0)), ptB] (.d levB) [] := CallOK.of_run (fr := true) okA 3000 (by kernel_rfl)
theorem kinA_ok : CallOK Tryz.prog 46 [chA] (.d kinA) [] := CallOK.of_run (fr := true) okA 3000 (by kernel_rfl)
theorem cliA_ok : CallOK Tryz.prog 48 [chA] (.d cliA) [] := CallOK.of_run (fr := true) okA 3000 (by kernel_rfl)
def libB : FuncId → List D → Option (V × Obs) := fun f ds =>
  if Nat.beq f 24 = true then (if sameD.sameDs ds [netA, (.val (.int .i64 0)), ptA] = true then some (.d levA, []) else if sameD.sameDs ds [netA, (.val (.int .i64 0)), ptB] = true then some (.d levB, []) else none)
  else if Nat.beq f 46 = true then (if sameD.sameDs ds [chA] = true then some (.d kinA, []) else none)
  else if Nat.beq f 48 = true then (if sameD.sameDs ds [chA] = true then some (.d cliA, []) else none)
  else none
def tbB : Tab := { fns := fnsA, mth := [], lib := libB, tls := tlsA }
theorem okB : TabOK Tryz.prog tbB := by
  refine ⟨mixed, callsA, fun f ds r obs h => ?_, fun f args O r O' ks h => by cases h⟩
  simp only [tbB, libB] at h
  repeat' split at h
  all_goals first
    | (cases h; done)
    | (rename_i hf hs
       rw [Nat.beq_eq] at hf
       have e := sameDs_eq _ _ hs
       subst hf e
       cases h
       first | exact levA_ok | exact kinA_ok | exact cliA_ok)
    | (rename_i hf _ hs
       rw [Nat.beq_eq] at hf
       have e := sameDs_eq _ _ hs
       subst hf e
       cases h
       first | exact levB_ok)
theorem awake_run : CallOK Tryz.prog 10 [] (.d (.val (.bool true))) [] := CallOK.of_run (fr := true) okB 3000 (by kernel_rfl)
theorem law09_awake_ok (N : Nat) (r : Bool) (hrun : law09_awake N = some r) : CallOK Tryz.prog 10 [] (.d (Bo r)) [] := by
  cases hrun
  exact awake_run
end
end Go.Proofs.YtklejiafioalnaaGreat
