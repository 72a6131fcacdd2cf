/-
  No cell of these rows narrows 'for every input' (looked for: loops, veiled, ifaces, maps, wideKeys, modest, calm, conditions, laid).
  DERIVED. THE GIVEN ROWS OF THIS SEAT. 8 by the template 'for every input the law returns true; each argument reads behind the call as it read before'; 0 by the template 'total and deterministic' (their statements: YtklejiafioalnaaTotals.lean).
  GIVEN WITH THE SEED: the statements are not yours to turn. If you find one false, say at which input.
  Laid BY PROGRAM, IN A SANDBOX (cutbox-rows.mjs): the forced cells as the released guide's own fill.sh prints them over the translation 4657d35d8285bdab… (all of the seat's roots in one cut). By AI agents, Wed Nov 11 2026. No macro, syntax, notation, axiom, sorry.
-/
import Derived.Test.YtklejiafioalnaaChecked
import GoSem.Claim
import GoSem.ClaimJoined
import GoSem.ClaimMapViews
import Derived.JoinedTies
import Derived.KernelRfl
namespace Go.Proofs.Ytklejiafioalnaa
/- THE CELL 'sum', in the pinned program and in every row, IS THE sha256 OF THE DUMP (.gsa) THAT YtklejiafioalnaaProg.lean LOADS. Nothing in Lean hashes anything: it is a label: what it is worth is what the hold of that sum in a sandbox is worth. -/
noncomputable def Try.pinned : Pinned := { name := "ytklejiafioalnaa", sum := "4657d35d8285bdaba9f5bc0f97cf9bcab3dfa3d6afa49adc47ee4928002d40ae", checked := Try.checked }
namespace Rows
def none {H : Type} : Left H := { results := [], args := [] }

/-- 'downtiltlaw09.PlanCliques': WHATEVER THE INPUT: true; the input reads as it did. -/
def planCliquesSpec : ChangeSpec := { name := "planCliques", fn := fun _ => fun
  | [d1, d2] => { results := [.lit (.bool true)], args := [d1, d2] }
  | _ => none }
def planCliquesRow : OpenClaim := { program := "ytklejiafioalnaa", sum := "4657d35d8285bdaba9f5bc0f97cf9bcab3dfa3d6afa49adc47ee4928002d40ae", func := "downtilt/downtiltlaw09.PlanCliques", spec := "planCliques", unfollowed := true, recurses := true, apart := false }
def PlanCliquesSaid : Prop := planCliquesRow.holds Try.pinned (OpenSpec.ofChange planCliquesSpec)

/-- ITS FALSE NEIGHBOUR: 'it returns false'. Refute it at one input. -/
def planCliquesWrong : ChangeSpec := { name := "planCliques", fn := fun _ => fun
  | [d1, d2] => { results := [.lit (.bool false)], args := [d1, d2] }
  | _ => none }
def PlanCliquesWrongFalsely : Prop := planCliquesRow.holds Try.pinned (OpenSpec.ofChange planCliquesWrong)

/-- 'downtiltlaw09.PlanKinds': WHATEVER THE INPUT: true; the input reads as it did. -/
def planKindsSpec : ChangeSpec := { name := "planKinds", fn := fun _ => fun
  | [d1, d2] => { results := [.lit (.bool true)], args := [d1, d2] }
  | _ => none }
def planKindsRow : OpenClaim := { program := "ytklejiafioalnaa", sum := "4657d35d8285bdaba9f5bc0f97cf9bcab3dfa3d6afa49adc47ee4928002d40ae", func := "downtilt/downtiltlaw09.PlanKinds", spec := "planKinds", unfollowed := true, recurses := true, apart := false }
def PlanKindsSaid : Prop := planKindsRow.holds Try.pinned (OpenSpec.ofChange planKindsSpec)

/-- ITS FALSE NEIGHBOUR: 'it returns false'. Refute it at one input. -/
def planKindsWrong : ChangeSpec := { name := "planKinds", fn := fun _ => fun
  | [d1, d2] => { results := [.lit (.bool false)], args := [d1, d2] }
  | _ => none }
def PlanKindsWrongFalsely : Prop := planKindsRow.holds Try.pinned (OpenSpec.ofChange planKindsWrong)

/-- 'downtiltlaw09.PlanMore': WHATEVER THE INPUT: true; the input reads as it did. -/
def planMoreSpec : ChangeSpec := { name := "planMore", fn := fun _ => fun
  | [d1, d2, d3] => { results := [.lit (.bool true)], args := [d1, d2, d3] }
  | _ => none }
def planMoreRow : OpenClaim := { program := "ytklejiafioalnaa", sum := "4657d35d8285bdaba9f5bc0f97cf9bcab3dfa3d6afa49adc47ee4928002d40ae", func := "downtilt/downtiltlaw09.PlanMore", spec := "planMore", unfollowed := true, recurses := true, apart := false }
def PlanMoreSaid : Prop := planMoreRow.holds Try.pinned (OpenSpec.ofChange planMoreSpec)

/-- ITS FALSE NEIGHBOUR: 'it returns false'. Refute it at one input. -/
def planMoreWrong : ChangeSpec := { name := "planMore", fn := fun _ => fun
  | [d1, d2, d3] => { results := [.lit (.bool false)], args := [d1, d2, d3] }
  | _ => none }
def PlanMoreWrongFalsely : Prop := planMoreRow.holds Try.pinned (OpenSpec.ofChange planMoreWrong)

/-- 'downtiltlaw09.PlanNets': WHATEVER THE INPUT: true; the input reads as it did. -/
def planNetsSpec : ChangeSpec := { name := "planNets", fn := fun _ => fun
  | [d1, d2] => { results := [.lit (.bool true)], args := [d1, d2] }
  | _ => none }
def planNetsRow : OpenClaim := { program := "ytklejiafioalnaa", sum := "4657d35d8285bdaba9f5bc0f97cf9bcab3dfa3d6afa49adc47ee4928002d40ae", func := "downtilt/downtiltlaw09.PlanNets", spec := "planNets", unfollowed := true, recurses := true, apart := false }
def PlanNetsSaid : Prop := planNetsRow.holds Try.pinned (OpenSpec.ofChange planNetsSpec)

/-- ITS FALSE NEIGHBOUR: 'it returns false'. Refute it at one input. -/
def planNetsWrong : ChangeSpec := { name := "planNets", fn := fun _ => fun
  | [d1, d2] => { results := [.lit (.bool false)], args := [d1, d2] }
  | _ => none }
def PlanNetsWrongFalsely : Prop := planNetsRow.holds Try.pinned (OpenSpec.ofChange planNetsWrong)

/-- 'downtiltlaw09.PlanNoConfusion': WHATEVER THE INPUT: true; the input reads as it did. -/
def planNoConfusionSpec : ChangeSpec := { name := "planNoConfusion", fn := fun _ => fun
  | [d1, d2, d3] => { results := [.lit (.bool true)], args := [d1, d2, d3] }
  | _ => none }
def planNoConfusionRow : OpenClaim := { program := "ytklejiafioalnaa", sum := "4657d35d8285bdaba9f5bc0f97cf9bcab3dfa3d6afa49adc47ee4928002d40ae", func := "downtilt/downtiltlaw09.PlanNoConfusion", spec := "planNoConfusion", unfollowed := true, recurses := true, apart := false }
def PlanNoConfusionSaid : Prop := planNoConfusionRow.holds Try.pinned (OpenSpec.ofChange planNoConfusionSpec)

/-- ITS FALSE NEIGHBOUR: 'it returns false'. Refute it at one input. -/
def planNoConfusionWrong : ChangeSpec := { name := "planNoConfusion", fn := fun _ => fun
  | [d1, d2, d3] => { results := [.lit (.bool false)], args := [d1, d2, d3] }
  | _ => none }
def PlanNoConfusionWrongFalsely : Prop := planNoConfusionRow.holds Try.pinned (OpenSpec.ofChange planNoConfusionWrong)

/-- 'downtiltlaw09.PlanRasters': WHATEVER THE INPUT: true; the input reads as it did. -/
def planRastersSpec : ChangeSpec := { name := "planRasters", fn := fun _ => fun
  | [d1, d2] => { results := [.lit (.bool true)], args := [d1, d2] }
  | _ => none }
def planRastersRow : OpenClaim := { program := "ytklejiafioalnaa", sum := "4657d35d8285bdaba9f5bc0f97cf9bcab3dfa3d6afa49adc47ee4928002d40ae", func := "downtilt/downtiltlaw09.PlanRasters", spec := "planRasters", unfollowed := true, recurses := true, apart := false }
def PlanRastersSaid : Prop := planRastersRow.holds Try.pinned (OpenSpec.ofChange planRastersSpec)

/-- ITS FALSE NEIGHBOUR: 'it returns false'. Refute it at one input. -/
def planRastersWrong : ChangeSpec := { name := "planRasters", fn := fun _ => fun
  | [d1, d2] => { results := [.lit (.bool false)], args := [d1, d2] }
  | _ => none }
def PlanRastersWrongFalsely : Prop := planRastersRow.holds Try.pinned (OpenSpec.ofChange planRastersWrong)

/-- 'downtiltlaw09.PlanRoots': WHATEVER THE INPUT: true; the input reads as it did. -/
def planRootsSpec : ChangeSpec := { name := "planRoots", fn := fun _ => fun
  | [d1, d2, d3] => { results := [.lit (.bool true)], args := [d1, d2, d3] }
  | _ => none }
def planRootsRow : OpenClaim := { program := "ytklejiafioalnaa", sum := "4657d35d8285bdaba9f5bc0f97cf9bcab3dfa3d6afa49adc47ee4928002d40ae", func := "downtilt/downtiltlaw09.PlanRoots", spec := "planRoots", unfollowed := true, recurses := true, apart := false }
def PlanRootsSaid : Prop := planRootsRow.holds Try.pinned (OpenSpec.ofChange planRootsSpec)

/-- ITS FALSE NEIGHBOUR: 'it returns false'. Refute it at one input. -/
def planRootsWrong : ChangeSpec := { name := "planRoots", fn := fun _ => fun
  | [d1, d2, d3] => { results := [.lit (.bool false)], args := [d1, d2, d3] }
  | _ => none }
def PlanRootsWrongFalsely : Prop := planRootsRow.holds Try.pinned (OpenSpec.ofChange planRootsWrong)

/-- 'downtiltlaw09.PlanSees': WHATEVER THE INPUT: true; the input reads as it did. -/
def planSeesSpec : ChangeSpec := { name := "planSees", fn := fun _ => fun
  | [d1, d2, d3] => { results := [.lit (.bool true)], args := [d1, d2, d3] }
  | _ => none }
def planSeesRow : OpenClaim := { program := "ytklejiafioalnaa", sum := "4657d35d8285bdaba9f5bc0f97cf9bcab3dfa3d6afa49adc47ee4928002d40ae", func := "downtilt/downtiltlaw09.PlanSees", spec := "planSees", unfollowed := true, recurses := true, apart := false }
def PlanSeesSaid : Prop := planSeesRow.holds Try.pinned (OpenSpec.ofChange planSeesSpec)

/-- ITS FALSE NEIGHBOUR: 'it returns false'. Refute it at one input. -/
def planSeesWrong : ChangeSpec := { name := "planSees", fn := fun _ => fun
  | [d1, d2, d3] => { results := [.lit (.bool false)], args := [d1, d2, d3] }
  | _ => none }
def PlanSeesWrongFalsely : Prop := planSeesRow.holds Try.pinned (OpenSpec.ofChange planSeesWrong)

/- THE SECOND FORM. 'bulk': how many values and letters a reading holds, each counted each time it is reached (what is shared counts as often as it is met; a slice's spare places count too). A statement '..UptoSaid' is the law's where the arguments, and the package variables that the reading takes, are together of bulk at most 1048576: NARROWER than '..Said'. Prove '..Said' where nothing that the law and all that it calls make is longer than what came in: it says more and counts as full. Else prove '..UptoSaid'. A law counts once. -/
mutual
def uptoBulk {H : Type} : DataW H → Nat
  | .lit (.string bytes) => bytes.length + 1
  | .lit _ => 1
  | .nil => 1
  | .ptr d => uptoBulk d + 1
  | .slice elems spare => uptoBulkAll elems + uptoBulkAll spare + 1
  | .agg parts => uptoBulkAll parts + 1
  | .iface _ d => uptoBulk d + 1
  | .map entries => uptoBulkEntries entries + 1
  | .held _ => 1
def uptoBulkAll {H : Type} : List (DataW H) → Nat
  | [] => 0
  | d :: r => uptoBulk d + uptoBulkAll r
def uptoBulkEntries {H : Type} : List (Lit × DataW H) → Nat
  | [] => 0
  | x :: r => uptoBulkEntry x + uptoBulkEntries r
def uptoBulkEntry {H : Type} : Lit × DataW H → Nat
  | (.string bytes, d) => bytes.length + uptoBulk d + 1
  | (_, d) => uptoBulk d + 1
 end
def uptoSmall : (H : Type) → List (DataW H) → Bool := fun _ ds => decide (uptoBulkAll ds ≤ 1048576)
def OpenSpec.upto (s : _root_.Go.ChangeSpec) : _root_.Go.OpenSpec := { _root_.Go.OpenSpec.ofChange s with cond := some uptoSmall }

/-- 'downtiltlaw09.PlanCliques', WHERE WHAT IT READS IS OF BULK AT MOST 1048576: true; the input reads as it did. -/
def planCliquesUptoRow : OpenClaim := { program := "ytklejiafioalnaa", sum := "4657d35d8285bdaba9f5bc0f97cf9bcab3dfa3d6afa49adc47ee4928002d40ae", func := "downtilt/downtiltlaw09.PlanCliques", spec := "planCliques", unfollowed := true, recurses := true, apart := false, narrowed := true }
def PlanCliquesUptoSaid : Prop := planCliquesUptoRow.holds Try.pinned (OpenSpec.upto planCliquesSpec)

/-- 'downtiltlaw09.PlanKinds', WHERE WHAT IT READS IS OF BULK AT MOST 1048576: true; the input reads as it did. -/
def planKindsUptoRow : OpenClaim := { program := "ytklejiafioalnaa", sum := "4657d35d8285bdaba9f5bc0f97cf9bcab3dfa3d6afa49adc47ee4928002d40ae", func := "downtilt/downtiltlaw09.PlanKinds", spec := "planKinds", unfollowed := true, recurses := true, apart := false, narrowed := true }
def PlanKindsUptoSaid : Prop := planKindsUptoRow.holds Try.pinned (OpenSpec.upto planKindsSpec)

/-- 'downtiltlaw09.PlanMore', WHERE WHAT IT READS IS OF BULK AT MOST 1048576: true; the input reads as it did. -/
def planMoreUptoRow : OpenClaim := { program := "ytklejiafioalnaa", sum := "4657d35d8285bdaba9f5bc0f97cf9bcab3dfa3d6afa49adc47ee4928002d40ae", func := "downtilt/downtiltlaw09.PlanMore", spec := "planMore", unfollowed := true, recurses := true, apart := false, narrowed := true }
def PlanMoreUptoSaid : Prop := planMoreUptoRow.holds Try.pinned (OpenSpec.upto planMoreSpec)

/-- 'downtiltlaw09.PlanNets', WHERE WHAT IT READS IS OF BULK AT MOST 1048576: true; the input reads as it did. -/
def planNetsUptoRow : OpenClaim := { program := "ytklejiafioalnaa", sum := "4657d35d8285bdaba9f5bc0f97cf9bcab3dfa3d6afa49adc47ee4928002d40ae", func := "downtilt/downtiltlaw09.PlanNets", spec := "planNets", unfollowed := true, recurses := true, apart := false, narrowed := true }
def PlanNetsUptoSaid : Prop := planNetsUptoRow.holds Try.pinned (OpenSpec.upto planNetsSpec)

/-- 'downtiltlaw09.PlanNoConfusion', WHERE WHAT IT READS IS OF BULK AT MOST 1048576: true; the input reads as it did. -/
def planNoConfusionUptoRow : OpenClaim := { program := "ytklejiafioalnaa", sum := "4657d35d8285bdaba9f5bc0f97cf9bcab3dfa3d6afa49adc47ee4928002d40ae", func := "downtilt/downtiltlaw09.PlanNoConfusion", spec := "planNoConfusion", unfollowed := true, recurses := true, apart := false, narrowed := true }
def PlanNoConfusionUptoSaid : Prop := planNoConfusionUptoRow.holds Try.pinned (OpenSpec.upto planNoConfusionSpec)

/-- 'downtiltlaw09.PlanRasters', WHERE WHAT IT READS IS OF BULK AT MOST 1048576: true; the input reads as it did. -/
def planRastersUptoRow : OpenClaim := { program := "ytklejiafioalnaa", sum := "4657d35d8285bdaba9f5bc0f97cf9bcab3dfa3d6afa49adc47ee4928002d40ae", func := "downtilt/downtiltlaw09.PlanRasters", spec := "planRasters", unfollowed := true, recurses := true, apart := false, narrowed := true }
def PlanRastersUptoSaid : Prop := planRastersUptoRow.holds Try.pinned (OpenSpec.upto planRastersSpec)

/-- 'downtiltlaw09.PlanRoots', WHERE WHAT IT READS IS OF BULK AT MOST 1048576: true; the input reads as it did. -/
def planRootsUptoRow : OpenClaim := { program := "ytklejiafioalnaa", sum := "4657d35d8285bdaba9f5bc0f97cf9bcab3dfa3d6afa49adc47ee4928002d40ae", func := "downtilt/downtiltlaw09.PlanRoots", spec := "planRoots", unfollowed := true, recurses := true, apart := false, narrowed := true }
def PlanRootsUptoSaid : Prop := planRootsUptoRow.holds Try.pinned (OpenSpec.upto planRootsSpec)

/-- 'downtiltlaw09.PlanSees', WHERE WHAT IT READS IS OF BULK AT MOST 1048576: true; the input reads as it did. -/
def planSeesUptoRow : OpenClaim := { program := "ytklejiafioalnaa", sum := "4657d35d8285bdaba9f5bc0f97cf9bcab3dfa3d6afa49adc47ee4928002d40ae", func := "downtilt/downtiltlaw09.PlanSees", spec := "planSees", unfollowed := true, recurses := true, apart := false, narrowed := true }
def PlanSeesUptoSaid : Prop := planSeesUptoRow.holds Try.pinned (OpenSpec.upto planSeesSpec)

end Rows
end Go.Proofs.Ytklejiafioalnaa
