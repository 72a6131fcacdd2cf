/-
  No cell of these rows narrows 'for every input' (looked for: loops, veiled, ifaces, maps, wideKeys, modest, calm, conditions, laid).
  DERIVED. THE GIVEN ROWS OF THIS SEAT. 7 by the template 'for every input the law returns true; each argument reads behind the call as it read before'; 0 by the template 'total and deterministic' (their statements: YtklejiafioalnaaGreatTotals.lean).
  GIVEN WITH THE SEED: the statements are not yours to turn. If you find one false, say at which input.
  Laid BY PROGRAM, IN A SANDBOX (cutbox-rows.mjs): the forced cells as the released guide's own fill.sh prints them over the translation 725677d15204d61b… (all of the seat's roots in one cut). By AI agents, Wed Nov 11 2026. No macro, syntax, notation, axiom, sorry.
-/
import Derived.Test.YtklejiafioalnaaGreatChecked
import GoSem.Claim
import GoSem.ClaimJoined
import GoSem.ClaimMapViews
import Derived.JoinedTies
import Derived.KernelRfl
namespace Go.Proofs.YtklejiafioalnaaGreat
/- THE CELL 'sum', in the pinned program and in every row, IS THE sha256 OF THE DUMP (.gsa) THAT YtklejiafioalnaaGreatProg.lean LOADS. Nothing in Lean hashes anything: it is a label: what it is worth is what the hold of that sum in a sandbox is worth. -/
noncomputable def Tryz.pinned : Pinned := { name := "ytklejiafioalnaagreat", sum := "725677d15204d61b177725f5ab186d345f3864314555e16d8ec6f8a3b451508d", checked := Tryz.checked }
namespace Rows
def none {H : Type} : Left H := { results := [], args := [] }

/-- 'downtiltlaw09.PlanDrives': WHATEVER THE INPUT: true; the input reads as it did. -/
def planDrivesSpec : ChangeSpec := { name := "planDrives", fn := fun _ => fun
  | [d1, d2] => { results := [.lit (.bool true)], args := [d1, d2] }
  | _ => none }
def planDrivesRow : OpenClaim := { program := "ytklejiafioalnaagreat", sum := "725677d15204d61b177725f5ab186d345f3864314555e16d8ec6f8a3b451508d", func := "downtilt/downtiltlaw09.PlanDrives", spec := "planDrives", unfollowed := true, recurses := true, apart := false }
def PlanDrivesSaid : Prop := planDrivesRow.holds Tryz.pinned (OpenSpec.ofChange planDrivesSpec)

/-- ITS FALSE NEIGHBOUR: 'it returns false'. Refute it at one input. -/
def planDrivesWrong : ChangeSpec := { name := "planDrives", fn := fun _ => fun
  | [d1, d2] => { results := [.lit (.bool false)], args := [d1, d2] }
  | _ => none }
def PlanDrivesWrongFalsely : Prop := planDrivesRow.holds Tryz.pinned (OpenSpec.ofChange planDrivesWrong)

/-- 'downtiltlaw09.PlanHoles': WHATEVER THE INPUT: true; the input reads as it did. -/
def planHolesSpec : ChangeSpec := { name := "planHoles", fn := fun _ => fun
  | [d] => { results := [.lit (.bool true)], args := [d] }
  | _ => none }
def planHolesRow : OpenClaim := { program := "ytklejiafioalnaagreat", sum := "725677d15204d61b177725f5ab186d345f3864314555e16d8ec6f8a3b451508d", func := "downtilt/downtiltlaw09.PlanHoles", spec := "planHoles", unfollowed := true, recurses := true, apart := false }
def PlanHolesSaid : Prop := planHolesRow.holds Tryz.pinned (OpenSpec.ofChange planHolesSpec)

/-- ITS FALSE NEIGHBOUR: 'it returns false'. Refute it at one input. -/
def planHolesWrong : ChangeSpec := { name := "planHoles", fn := fun _ => fun
  | [d] => { results := [.lit (.bool false)], args := [d] }
  | _ => none }
def PlanHolesWrongFalsely : Prop := planHolesRow.holds Tryz.pinned (OpenSpec.ofChange planHolesWrong)

/-- 'downtiltlaw09.PlanLevels': WHATEVER THE INPUT: true; the input reads as it did. -/
def planLevelsSpec : ChangeSpec := { name := "planLevels", fn := fun _ => fun
  | [d1, d2, d3] => { results := [.lit (.bool true)], args := [d1, d2, d3] }
  | _ => none }
def planLevelsRow : OpenClaim := { program := "ytklejiafioalnaagreat", sum := "725677d15204d61b177725f5ab186d345f3864314555e16d8ec6f8a3b451508d", func := "downtilt/downtiltlaw09.PlanLevels", spec := "planLevels", unfollowed := true, recurses := true, apart := false }
def PlanLevelsSaid : Prop := planLevelsRow.holds Tryz.pinned (OpenSpec.ofChange planLevelsSpec)

/-- ITS FALSE NEIGHBOUR: 'it returns false'. Refute it at one input. -/
def planLevelsWrong : ChangeSpec := { name := "planLevels", fn := fun _ => fun
  | [d1, d2, d3] => { results := [.lit (.bool false)], args := [d1, d2, d3] }
  | _ => none }
def PlanLevelsWrongFalsely : Prop := planLevelsRow.holds Tryz.pinned (OpenSpec.ofChange planLevelsWrong)

/-- 'downtiltlaw09.PlanNeighbours': WHATEVER THE INPUT: true; the input reads as it did. -/
def planNeighboursSpec : ChangeSpec := { name := "planNeighbours", fn := fun _ => fun
  | [d1, d2] => { results := [.lit (.bool true)], args := [d1, d2] }
  | _ => none }
def planNeighboursRow : OpenClaim := { program := "ytklejiafioalnaagreat", sum := "725677d15204d61b177725f5ab186d345f3864314555e16d8ec6f8a3b451508d", func := "downtilt/downtiltlaw09.PlanNeighbours", spec := "planNeighbours", unfollowed := true, recurses := true, apart := false }
def PlanNeighboursSaid : Prop := planNeighboursRow.holds Tryz.pinned (OpenSpec.ofChange planNeighboursSpec)

/-- ITS FALSE NEIGHBOUR: 'it returns false'. Refute it at one input. -/
def planNeighboursWrong : ChangeSpec := { name := "planNeighbours", fn := fun _ => fun
  | [d1, d2] => { results := [.lit (.bool false)], args := [d1, d2] }
  | _ => none }
def PlanNeighboursWrongFalsely : Prop := planNeighboursRow.holds Tryz.pinned (OpenSpec.ofChange planNeighboursWrong)

/-- 'downtiltlaw09.PlanResting': WHATEVER THE INPUT: true; the input reads as it did. -/
def planRestingSpec : ChangeSpec := { name := "planResting", fn := fun _ => fun
  | [d1, d2] => { results := [.lit (.bool true)], args := [d1, d2] }
  | _ => none }
def planRestingRow : OpenClaim := { program := "ytklejiafioalnaagreat", sum := "725677d15204d61b177725f5ab186d345f3864314555e16d8ec6f8a3b451508d", func := "downtilt/downtiltlaw09.PlanResting", spec := "planResting", unfollowed := true, recurses := true, apart := false }
def PlanRestingSaid : Prop := planRestingRow.holds Tryz.pinned (OpenSpec.ofChange planRestingSpec)

/-- ITS FALSE NEIGHBOUR: 'it returns false'. Refute it at one input. -/
def planRestingWrong : ChangeSpec := { name := "planResting", fn := fun _ => fun
  | [d1, d2] => { results := [.lit (.bool false)], args := [d1, d2] }
  | _ => none }
def PlanRestingWrongFalsely : Prop := planRestingRow.holds Tryz.pinned (OpenSpec.ofChange planRestingWrong)

/-- 'downtiltlaw09.PlanRests': WHATEVER THE INPUT: true; the input reads as it did. -/
def planRestsSpec : ChangeSpec := { name := "planRests", fn := fun _ => fun
  | [d1, d2] => { results := [.lit (.bool true)], args := [d1, d2] }
  | _ => none }
def planRestsRow : OpenClaim := { program := "ytklejiafioalnaagreat", sum := "725677d15204d61b177725f5ab186d345f3864314555e16d8ec6f8a3b451508d", func := "downtilt/downtiltlaw09.PlanRests", spec := "planRests", unfollowed := true, recurses := true, apart := false }
def PlanRestsSaid : Prop := planRestsRow.holds Tryz.pinned (OpenSpec.ofChange planRestsSpec)

/-- ITS FALSE NEIGHBOUR: 'it returns false'. Refute it at one input. -/
def planRestsWrong : ChangeSpec := { name := "planRests", fn := fun _ => fun
  | [d1, d2] => { results := [.lit (.bool false)], args := [d1, d2] }
  | _ => none }
def PlanRestsWrongFalsely : Prop := planRestsRow.holds Tryz.pinned (OpenSpec.ofChange planRestsWrong)

/-- 'downtiltlaw09.PlanTilts': WHATEVER THE INPUT: true; the input reads as it did. -/
def planTiltsSpec : ChangeSpec := { name := "planTilts", fn := fun _ => fun
  | [d1, d2] => { results := [.lit (.bool true)], args := [d1, d2] }
  | _ => none }
def planTiltsRow : OpenClaim := { program := "ytklejiafioalnaagreat", sum := "725677d15204d61b177725f5ab186d345f3864314555e16d8ec6f8a3b451508d", func := "downtilt/downtiltlaw09.PlanTilts", spec := "planTilts", unfollowed := true, recurses := true, apart := false }
def PlanTiltsSaid : Prop := planTiltsRow.holds Tryz.pinned (OpenSpec.ofChange planTiltsSpec)

/-- ITS FALSE NEIGHBOUR: 'it returns false'. Refute it at one input. -/
def planTiltsWrong : ChangeSpec := { name := "planTilts", fn := fun _ => fun
  | [d1, d2] => { results := [.lit (.bool false)], args := [d1, d2] }
  | _ => none }
def PlanTiltsWrongFalsely : Prop := planTiltsRow.holds Tryz.pinned (OpenSpec.ofChange planTiltsWrong)

/- THE SECOND FORM. 'bulk': how many values and letters a reading holds, each counted each time it is reached (what is shared counts as often as it is met; a slice's spare places count too). A statement '..UptoSaid' is the law's where the arguments, and the package variables that the reading takes, are together of bulk at most 1048576: NARROWER than '..Said'. Prove '..Said' where nothing that the law and all that it calls make is longer than what came in: it says more and counts as full. Else prove '..UptoSaid'. A law counts once. -/
mutual
def uptoBulk {H : Type} : DataW H → Nat
  | .lit (.string bytes) => bytes.length + 1
  | .lit _ => 1
  | .nil => 1
  | .ptr d => uptoBulk d + 1
  | .slice elems spare => uptoBulkAll elems + uptoBulkAll spare + 1
  | .agg parts => uptoBulkAll parts + 1
  | .iface _ d => uptoBulk d + 1
  | .map entries => uptoBulkEntries entries + 1
  | .held _ => 1
def uptoBulkAll {H : Type} : List (DataW H) → Nat
  | [] => 0
  | d :: r => uptoBulk d + uptoBulkAll r
def uptoBulkEntries {H : Type} : List (Lit × DataW H) → Nat
  | [] => 0
  | x :: r => uptoBulkEntry x + uptoBulkEntries r
def uptoBulkEntry {H : Type} : Lit × DataW H → Nat
  | (.string bytes, d) => bytes.length + uptoBulk d + 1
  | (_, d) => uptoBulk d + 1
 end
def uptoSmall : (H : Type) → List (DataW H) → Bool := fun _ ds => decide (uptoBulkAll ds ≤ 1048576)
def OpenSpec.upto (s : _root_.Go.ChangeSpec) : _root_.Go.OpenSpec := { _root_.Go.OpenSpec.ofChange s with cond := some uptoSmall }

/-- 'downtiltlaw09.PlanDrives', WHERE WHAT IT READS IS OF BULK AT MOST 1048576: true; the input reads as it did. -/
def planDrivesUptoRow : OpenClaim := { program := "ytklejiafioalnaagreat", sum := "725677d15204d61b177725f5ab186d345f3864314555e16d8ec6f8a3b451508d", func := "downtilt/downtiltlaw09.PlanDrives", spec := "planDrives", unfollowed := true, recurses := true, apart := false, narrowed := true }
def PlanDrivesUptoSaid : Prop := planDrivesUptoRow.holds Tryz.pinned (OpenSpec.upto planDrivesSpec)

/-- 'downtiltlaw09.PlanHoles', WHERE WHAT IT READS IS OF BULK AT MOST 1048576: true; the input reads as it did. -/
def planHolesUptoRow : OpenClaim := { program := "ytklejiafioalnaagreat", sum := "725677d15204d61b177725f5ab186d345f3864314555e16d8ec6f8a3b451508d", func := "downtilt/downtiltlaw09.PlanHoles", spec := "planHoles", unfollowed := true, recurses := true, apart := false, narrowed := true }
def PlanHolesUptoSaid : Prop := planHolesUptoRow.holds Tryz.pinned (OpenSpec.upto planHolesSpec)

/-- 'downtiltlaw09.PlanLevels', WHERE WHAT IT READS IS OF BULK AT MOST 1048576: true; the input reads as it did. -/
def planLevelsUptoRow : OpenClaim := { program := "ytklejiafioalnaagreat", sum := "725677d15204d61b177725f5ab186d345f3864314555e16d8ec6f8a3b451508d", func := "downtilt/downtiltlaw09.PlanLevels", spec := "planLevels", unfollowed := true, recurses := true, apart := false, narrowed := true }
def PlanLevelsUptoSaid : Prop := planLevelsUptoRow.holds Tryz.pinned (OpenSpec.upto planLevelsSpec)

/-- 'downtiltlaw09.PlanNeighbours', WHERE WHAT IT READS IS OF BULK AT MOST 1048576: true; the input reads as it did. -/
def planNeighboursUptoRow : OpenClaim := { program := "ytklejiafioalnaagreat", sum := "725677d15204d61b177725f5ab186d345f3864314555e16d8ec6f8a3b451508d", func := "downtilt/downtiltlaw09.PlanNeighbours", spec := "planNeighbours", unfollowed := true, recurses := true, apart := false, narrowed := true }
def PlanNeighboursUptoSaid : Prop := planNeighboursUptoRow.holds Tryz.pinned (OpenSpec.upto planNeighboursSpec)

/-- 'downtiltlaw09.PlanResting', WHERE WHAT IT READS IS OF BULK AT MOST 1048576: true; the input reads as it did. -/
def planRestingUptoRow : OpenClaim := { program := "ytklejiafioalnaagreat", sum := "725677d15204d61b177725f5ab186d345f3864314555e16d8ec6f8a3b451508d", func := "downtilt/downtiltlaw09.PlanResting", spec := "planResting", unfollowed := true, recurses := true, apart := false, narrowed := true }
def PlanRestingUptoSaid : Prop := planRestingUptoRow.holds Tryz.pinned (OpenSpec.upto planRestingSpec)

/-- 'downtiltlaw09.PlanRests', WHERE WHAT IT READS IS OF BULK AT MOST 1048576: true; the input reads as it did. -/
def planRestsUptoRow : OpenClaim := { program := "ytklejiafioalnaagreat", sum := "725677d15204d61b177725f5ab186d345f3864314555e16d8ec6f8a3b451508d", func := "downtilt/downtiltlaw09.PlanRests", spec := "planRests", unfollowed := true, recurses := true, apart := false, narrowed := true }
def PlanRestsUptoSaid : Prop := planRestsUptoRow.holds Tryz.pinned (OpenSpec.upto planRestsSpec)

/-- 'downtiltlaw09.PlanTilts', WHERE WHAT IT READS IS OF BULK AT MOST 1048576: true; the input reads as it did. -/
def planTiltsUptoRow : OpenClaim := { program := "ytklejiafioalnaagreat", sum := "725677d15204d61b177725f5ab186d345f3864314555e16d8ec6f8a3b451508d", func := "downtilt/downtiltlaw09.PlanTilts", spec := "planTilts", unfollowed := true, recurses := true, apart := false, narrowed := true }
def PlanTiltsUptoSaid : Prop := planTiltsUptoRow.holds Tryz.pinned (OpenSpec.upto planTiltsSpec)

end Rows
end Go.Proofs.YtklejiafioalnaaGreat
