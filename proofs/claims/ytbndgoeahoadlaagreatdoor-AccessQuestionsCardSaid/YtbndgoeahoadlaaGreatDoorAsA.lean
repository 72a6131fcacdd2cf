import Derived.Test.YtbndgoeahoadlaaGreatDoorAsM
import Derived.Test.YtbndgoeahoadlaaGreatDoorAsSh
import Derived.Test.YtbndgoeahoadlaaGreatDoorExG
import Derived.KernelRfl
set_option linter.all false
namespace Go.Proofs.YtbndgoeahoadlaaGreatDoor
open Go.PW Go.Sh
/-- The texts of the numbers that occur. -/
def itoaT : List (Int × ByteArray) := [(9, ⟨#[57]⟩), (3, ⟨#[51]⟩), ((-1), ⟨#[45, 49]⟩), (0, ⟨#[48]⟩), (11, ⟨#[49, 49]⟩), (1, ⟨#[49]⟩), (48272, ⟨#[52, 56, 50, 55, 50]⟩), (4, ⟨#[52]⟩), (2, ⟨#[50]⟩)]
theorem itoaT_ok : ∀ x ∈ itoaT, (⟨(Lib.itoa x.1).toArray⟩ : ByteArray) = x.2 ∧ -9223372036854775808 ≤ x.1 ∧ x.1 ≤ 9223372036854775807 := by
  simp only [itoaT, List.forall_mem_cons, Lib.itoa]
  refine ⟨?_, ?_, ?_, ?_, ?_, ?_, ?_, ?_, ?_, List.forall_mem_nil _⟩
  all_goals (refine ⟨?_, by decide, by decide⟩; simp [Lib.decDigits])
def strsB (l : List D) (s : ByteArray) : Option ByteArray := if l.all isS && Nat.ble l.length 1000 && Nat.ble (joinB (l.map strS) s).data.toList.length 1000 then some (joinB (l.map strS) s) else none
def libA : FuncId → List D → Option (V × Obs) := fun f ds =>
  if Nat.beq f 114 = true then match ds with
    | [.val (.int .i64 n)] => match itoaT.find? (fun x => x.1 == n) with
      | some x => some (.d (.val (.string x.2)), [])
      | none => none
    | _ => none
  else if Nat.beq f 116 = true then match ds with
    | [.list n cells, .val (.string s)] => if Nat.beq n cells.length = true then match strsB cells s with
        | some b => some (.d (.val (.string b)), [])
        | none => none
      else none
    | _ => none
  else none
def libMA : FuncId → List V → List Ob → Option (V × List Ob × List Nat) := fun f args O => if Nat.beq f 120 = true then cloneM args O else none
def fnsA : List Nat := [15, 16, 17, 22, 24, 37, 44, 46, 53, 54, 73, 74, 75, 76, 77, 78, 79, 80, 82, 83, 84, 85, 86, 87, 94, 95, 96, 97, 98, 99, 100, 101, 102, 105, 106, 107, 111, 112, 115, 117, 118, 119, 121, 122, 123, 124, 125, 132, 133, 134, 135, 138, 139, 140, 145, 146, 147, 148, 149, 150, 151, 152, 153, 154, 155, 156, 157, 158, 162, 163, 164, 165, 166, 167, 168, 169, 170, 171, 172, 173, 174, 175, 182, 183, 184, 185, 186, 187, 188, 193]
def tbA : Tab := { fns := fnsA, mth := [120, 125, 147, 148, 149, 150, 151, 121, 146, 115, 133, 134, 156, 165, 166, 167, 168, 169, 170, 172, 173, 183, 193, 186, 187], lib := libA, libM := libMA, tls := [(0, 16, 14), (1, 7, 3), (1, 8, 6), (1, 9, 5), (1, 9, 8), (1, 10, 6), (1, 10, 7), (1, 10, 8), (1, 11, 8), (1, 11, 9), (1, 12, 8), (1, 12, 10), (1, 15, 11), (1, 16, 14), (1, 16, 15), (1, 18, 16), (1, 21, 16), (1, 22, 18), (1, 23, 21), (1, 28, 25), (2, 10, 7), (2, 11, 8), (2, 11, 9), (2, 12, 7), (2, 24, 18), (2, 24, 22), (3, 10, 7), (3, 13, 12), (3, 14, 12), (3, 15, 12), (3, 16, 14), (3, 20, 18), (3, 22, 20), (3, 29, 24), (4, 8, 6), (4, 9, 5), (4, 9, 6), (4, 10, 5), (4, 12, 10), (4, 15, 13), (4, 16, 13), (4, 16, 14), (4, 22, 17), (5, 5, 3), (5, 7, 4), (5, 11, 8), (5, 11, 10), (5, 12, 11), (5, 14, 12), (5, 14, 13), (5, 15, 12), (5, 16, 13), (5, 20, 18), (5, 22, 21), (6, 4, 3), (6, 8, 6), (6, 9, 8), (6, 10, 9), (6, 11, 8), (6, 11, 10), (6, 12, 10), (6, 13, 12), (6, 14, 12), (6, 18, 16), (6, 24, 22), (6, 25, 23), (7, 9, 7), (7, 10, 7), (7, 11, 9), (7, 11, 10), (7, 15, 13), (7, 17, 14), (7, 19, 16), (8, 8, 5), (8, 8, 6), (8, 15, 13), (8, 16, 14), (8, 21, 19), (8, 22, 20), (8, 27, 25), (9, 10, 9), (9, 15, 13), (10, 7, 6), (10, 10, 9), (10, 13, 12), (10, 15, 13), (10, 16, 14), (10, 20, 18), (10, 36, 33), (11, 6, 4), (11, 10, 9), (11, 18, 16), (12, 8, 6), (12, 14, 12), (13, 9, 7), (13, 14, 12), (13, 14, 13), (13, 34, 28), (14, 9, 6), (14, 13, 11), (15, 12, 11), (15, 15, 12), (15, 29, 23), (16, 10, 8), (16, 11, 9), (17, 14, 8), (17, 14, 11), (17, 15, 12), (17, 15, 13), (17, 18, 16), (18, 15, 13), (18, 16, 14), (19, 10, 7), (19, 14, 13), (19, 20, 17), (20, 14, 13), (21, 16, 14), (22, 11, 9), (22, 15, 13), (23, 10, 7), (23, 15, 13), (23, 18, 16), (24, 11, 10), (27, 25, 22), (28, 18, 16), (30, 13, 12), (41, 9, 8)], mrs := [(1, 9, 8), (1, 16, 15), (4, 9, 6), (4, 16, 13), (4, 16, 14), (5, 11, 10), (5, 12, 11), (5, 14, 13), (5, 22, 21), (6, 10, 9), (6, 12, 10), (6, 13, 12), (8, 22, 20), (10, 13, 12), (12, 14, 12), (13, 14, 13), (15, 12, 11), (17, 14, 11), (19, 14, 13), (20, 14, 13), (24, 11, 10), (30, 13, 12)], fz := [24], ors := [(1, 9, 8), (8, 22, 20), (4, 16, 14), (6, 12, 10)] }
theorem callsA : ∀ f ∈ fnsA, ∀ args w, (callFunc f args).run Tryz.prog w = .ok (.enter f args) w :=
  List.forall_mem_cons.2 ⟨Tryz.call15, List.forall_mem_cons.2 ⟨Tryz.call16, List.forall_mem_cons.2 ⟨Tryz.call17, List.forall_mem_cons.2 ⟨Tryz.call22, List.forall_mem_cons.2 ⟨Tryz.call24, List.forall_mem_cons.2 ⟨Tryz.call37, List.forall_mem_cons.2 ⟨Tryz.call44, List.forall_mem_cons.2 ⟨Tryz.call46, List.forall_mem_cons.2 ⟨Tryz.call53, List.forall_mem_cons.2 ⟨Tryz.call54, List.forall_mem_cons.2 ⟨Tryz.call73, List.forall_mem_cons.2 ⟨Tryz.call74, List.forall_mem_cons.2 ⟨Tryz.call75, List.forall_mem_cons.2 ⟨Tryz.call76, List.forall_mem_cons.2 ⟨Tryz.call77, List.forall_mem_cons.2 ⟨Tryz.call78, List.forall_mem_cons.2 ⟨Tryz.call79, List.forall_mem_cons.2 ⟨Tryz.call80, List.forall_mem_cons.2 ⟨Tryz.call82, List.forall_mem_cons.2 ⟨Tryz.call83, List.forall_mem_cons.2 ⟨Tryz.call84, List.forall_mem_cons.2 ⟨Tryz.call85, List.forall_mem_cons.2 ⟨Tryz.call86, List.forall_mem_cons.2 ⟨Tryz.call87, List.forall_mem_cons.2 ⟨Tryz.call94, List.forall_mem_cons.2 ⟨Tryz.call95, List.forall_mem_cons.2 ⟨Tryz.call96, List.forall_mem_cons.2 ⟨Tryz.call97, List.forall_mem_cons.2 ⟨Tryz.call98, List.forall_mem_cons.2 ⟨Tryz.call99, List.forall_mem_cons.2 ⟨Tryz.call100, List.forall_mem_cons.2 ⟨Tryz.call101, List.forall_mem_cons.2 ⟨Tryz.call102, List.forall_mem_cons.2 ⟨Tryz.call105, List.forall_mem_cons.2 ⟨Tryz.call106, List.forall_mem_cons.2 ⟨Tryz.call107, List.forall_mem_cons.2 ⟨Tryz.call111, List.forall_mem_cons.2 ⟨Tryz.call112, List.forall_mem_cons.2 ⟨Tryz.call115, List.forall_mem_cons.2 ⟨Tryz.call117, List.forall_mem_cons.2 ⟨Tryz.call118, List.forall_mem_cons.2 ⟨Tryz.call119, List.forall_mem_cons.2 ⟨Tryz.call121, List.forall_mem_cons.2 ⟨Tryz.call122, List.forall_mem_cons.2 ⟨Tryz.call123, List.forall_mem_cons.2 ⟨Tryz.call124, List.forall_mem_cons.2 ⟨Tryz.call125, List.forall_mem_cons.2 ⟨Tryz.call132, List.forall_mem_cons.2 ⟨Tryz.call133, List.forall_mem_cons.2 ⟨Tryz.call134, List.forall_mem_cons.2 ⟨Tryz.call135, List.forall_mem_cons.2 ⟨Tryz.call138, List.forall_mem_cons.2 ⟨Tryz.call139, List.forall_mem_cons.2 ⟨Tryz.call140, List.forall_mem_cons.2 ⟨Tryz.call145, List.forall_mem_cons.2 ⟨Tryz.call146, List.forall_mem_cons.2 ⟨Tryz.call147, List.forall_mem_cons.2 ⟨Tryz.call148, List.forall_mem_cons.2 ⟨Tryz.call149, List.forall_mem_cons.2 ⟨Tryz.call150, List.forall_mem_cons.2 ⟨Tryz.call151, List.forall_mem_cons.2 ⟨Tryz.call152, List.forall_mem_cons.2 ⟨Tryz.call153, List.forall_mem_cons.2 ⟨Tryz.call154, List.forall_mem_cons.2 ⟨Tryz.call155, List.forall_mem_cons.2 ⟨Tryz.call156, List.forall_mem_cons.2 ⟨Tryz.call157, List.forall_mem_cons.2 ⟨Tryz.call158, List.forall_mem_cons.2 ⟨Tryz.call162, List.forall_mem_cons.2 ⟨Tryz.call163, List.forall_mem_cons.2 ⟨Tryz.call164, List.forall_mem_cons.2 ⟨Tryz.call165, List.forall_mem_cons.2 ⟨Tryz.call166, List.forall_mem_cons.2 ⟨Tryz.call167, List.forall_mem_cons.2 ⟨Tryz.call168, List.forall_mem_cons.2 ⟨Tryz.call169, List.forall_mem_cons.2 ⟨Tryz.call170, List.forall_mem_cons.2 ⟨Tryz.call171, List.forall_mem_cons.2 ⟨Tryz.call172, List.forall_mem_cons.2 ⟨Tryz.call173, List.forall_mem_cons.2 ⟨Tryz.call174, List.forall_mem_cons.2 ⟨Tryz.call175, List.forall_mem_cons.2 ⟨Tryz.call182, List.forall_mem_cons.2 ⟨Tryz.call183, List.forall_mem_cons.2 ⟨Tryz.call184, List.forall_mem_cons.2 ⟨Tryz.call185, List.forall_mem_cons.2 ⟨Tryz.call186, List.forall_mem_cons.2 ⟨Tryz.call187, List.forall_mem_cons.2 ⟨Tryz.call188, List.forall_mem_cons.2 ⟨Tryz.call193, (List.forall_mem_nil _)⟩⟩⟩⟩⟩⟩⟩⟩⟩⟩⟩⟩⟩⟩⟩⟩⟩⟩⟩⟩⟩⟩⟩⟩⟩⟩⟩⟩⟩⟩⟩⟩⟩⟩⟩⟩⟩⟩⟩⟩⟩⟩⟩⟩⟩⟩⟩⟩⟩⟩⟩⟩⟩⟩⟩⟩⟩⟩⟩⟩⟩⟩⟩⟩⟩⟩⟩⟩⟩⟩⟩⟩⟩⟩⟩⟩⟩⟩⟩⟩⟩⟩⟩⟩⟩⟩⟩⟩⟩⟩
theorem okA : TabOK Tryz.prog tbA := by
  refine ⟨mixed, callsA, fun f ds r obs h => ?_, fun f args O r O' ks h => ?_⟩
  · simp only [tbA, libA] at h
    split at h
    · rename_i hf
      rw [Nat.beq_eq] at hf
      subst hf
      split at h
      · rename_i n
        split at h
        · rename_i x hx
          cases h
          have e := List.find?_some hx
          simp only [beq_iff_eq] at e
          have m := itoaT_ok x (List.mem_of_find?_eq_some hx)
          rw [e] at m
          have := itoa_ok m.2.1 m.2.2
          rw [m.1] at this
          exact this
        · cases h
      · cases h
    · split at h
      · rename_i hf
        rw [Nat.beq_eq] at hf
        subst hf
        split at h
        · rename_i n cells s
          split at h
          · rename_i hn
            rw [Nat.beq_eq] at hn
            split at h
            · rename_i b hb
              cases h
              unfold strsB at hb
              split at hb
              · rename_i hc
                cases hb
                simp only [Bool.and_eq_true, Nat.ble_eq, joinB] at hc
                exact join_ok hc.1.1 hn (by omega) (by omega)
              · cases hb
            · cases h
          · cases h
        · cases h
      · cases h
  · simp only [tbA, libMA] at h
    split at h
    · rename_i hf
      rw [Nat.beq_eq] at hf
      subst hf
      exact cloneM_ok h
    · cases h
set_option maxRecDepth 1000000
theorem awake_run : CallOK Tryz.prog 15 [] (.d (.val (.bool true))) [] := CallOK.of_run (fr := true) okA 3000 (by kernel_rfl)
theorem law07_awake_ok (N : Nat) (r : Bool) (hrun : law07_awake N = some r) : CallOK Tryz.prog 15 [] (.d (Bo r)) [] := by
  cases hrun
  exact awake_run
end Go.Proofs.YtbndgoeahoadlaaGreatDoor
