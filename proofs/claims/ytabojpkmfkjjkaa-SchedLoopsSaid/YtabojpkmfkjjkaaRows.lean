/-
  No cell of these rows narrows 'for every input' (looked for: loops, veiled, ifaces, maps, wideKeys, modest, calm, conditions, laid).
  DERIVED. THE GIVEN ROWS OF THIS SEAT. 14 by the template 'for every input the law returns true; each argument reads behind the call as it read before'; 0 by the template 'total and deterministic' (their statements: YtabojpkmfkjjkaaTotals.lean).
  GIVEN WITH THE SEED: the statements are not yours to turn. If you find one false, say at which input.
  Laid BY PROGRAM, IN A SANDBOX (cutbox-rows.mjs): the forced cells as the released guide's own fill.sh prints them over the translation 4532300a5b0cc05f… (all of the seat's roots in one cut). By AI agents, Wed Nov 11 2026. No macro, syntax, notation, axiom, sorry.
-/
import Derived.Test.YtabojpkmfkjjkaaChecked
import GoSem.Claim
import GoSem.ClaimJoined
import GoSem.ClaimMapViews
import Derived.JoinedTies
import Derived.KernelRfl
namespace Go.Proofs.Ytabojpkmfkjjkaa
/- THE CELL 'sum', in the pinned program and in every row, IS THE sha256 OF THE DUMP (.gsa) THAT YtabojpkmfkjjkaaProg.lean LOADS. Nothing in Lean hashes anything: it is a label: what it is worth is what the hold of that sum in a sandbox is worth. -/
noncomputable def Try.pinned : Pinned := { name := "ytabojpkmfkjjkaa", sum := "4532300a5b0cc05f2af44e1b8884556c74060eee09b02041bc2ebdb5101fd303", checked := Try.checked }
namespace Rows
def none {H : Type} : Left H := { results := [], args := [] }

/-- 'downtiltlaw06.SchedAdmits': WHATEVER THE INPUT: true; the input reads as it did. -/
def schedAdmitsSpec : ChangeSpec := { name := "schedAdmits", fn := fun _ => fun
  | [d1, d2, d3] => { results := [.lit (.bool true)], args := [d1, d2, d3] }
  | _ => none }
def schedAdmitsRow : OpenClaim := { program := "ytabojpkmfkjjkaa", sum := "4532300a5b0cc05f2af44e1b8884556c74060eee09b02041bc2ebdb5101fd303", func := "downtilt/downtiltlaw06.SchedAdmits", spec := "schedAdmits", unfollowed := true, recurses := true, apart := false }
def SchedAdmitsSaid : Prop := schedAdmitsRow.holds Try.pinned (OpenSpec.ofChange schedAdmitsSpec)

/-- ITS FALSE NEIGHBOUR: 'it returns false'. Refute it at one input. -/
def schedAdmitsWrong : ChangeSpec := { name := "schedAdmits", fn := fun _ => fun
  | [d1, d2, d3] => { results := [.lit (.bool false)], args := [d1, d2, d3] }
  | _ => none }
def SchedAdmitsWrongFalsely : Prop := schedAdmitsRow.holds Try.pinned (OpenSpec.ofChange schedAdmitsWrong)

/-- 'downtiltlaw06.SchedNeverRefused': WHATEVER THE INPUT: true; the input reads as it did. -/
def schedNeverRefusedSpec : ChangeSpec := { name := "schedNeverRefused", fn := fun _ => fun
  | [d1, d2, d3] => { results := [.lit (.bool true)], args := [d1, d2, d3] }
  | _ => none }
def schedNeverRefusedRow : OpenClaim := { program := "ytabojpkmfkjjkaa", sum := "4532300a5b0cc05f2af44e1b8884556c74060eee09b02041bc2ebdb5101fd303", func := "downtilt/downtiltlaw06.SchedNeverRefused", spec := "schedNeverRefused", unfollowed := true, recurses := true, apart := false }
def SchedNeverRefusedSaid : Prop := schedNeverRefusedRow.holds Try.pinned (OpenSpec.ofChange schedNeverRefusedSpec)

/-- ITS FALSE NEIGHBOUR: 'it returns false'. Refute it at one input. -/
def schedNeverRefusedWrong : ChangeSpec := { name := "schedNeverRefused", fn := fun _ => fun
  | [d1, d2, d3] => { results := [.lit (.bool false)], args := [d1, d2, d3] }
  | _ => none }
def SchedNeverRefusedWrongFalsely : Prop := schedNeverRefusedRow.holds Try.pinned (OpenSpec.ofChange schedNeverRefusedWrong)

/-- 'downtiltlaw06.SchedIdle': WHATEVER THE INPUT: true; the input reads as it did. -/
def schedIdleSpec : ChangeSpec := { name := "schedIdle", fn := fun _ => fun
  | [d1, d2, d3] => { results := [.lit (.bool true)], args := [d1, d2, d3] }
  | _ => none }
def schedIdleRow : OpenClaim := { program := "ytabojpkmfkjjkaa", sum := "4532300a5b0cc05f2af44e1b8884556c74060eee09b02041bc2ebdb5101fd303", func := "downtilt/downtiltlaw06.SchedIdle", spec := "schedIdle", unfollowed := true, recurses := true, apart := false }
def SchedIdleSaid : Prop := schedIdleRow.holds Try.pinned (OpenSpec.ofChange schedIdleSpec)

/-- ITS FALSE NEIGHBOUR: 'it returns false'. Refute it at one input. -/
def schedIdleWrong : ChangeSpec := { name := "schedIdle", fn := fun _ => fun
  | [d1, d2, d3] => { results := [.lit (.bool false)], args := [d1, d2, d3] }
  | _ => none }
def SchedIdleWrongFalsely : Prop := schedIdleRow.holds Try.pinned (OpenSpec.ofChange schedIdleWrong)

/-- 'downtiltlaw06.SchedBearers': WHATEVER THE INPUT: true; the input reads as it did. -/
def schedBearersSpec : ChangeSpec := { name := "schedBearers", fn := fun _ => fun
  | [d1, d2, d3] => { results := [.lit (.bool true)], args := [d1, d2, d3] }
  | _ => none }
def schedBearersRow : OpenClaim := { program := "ytabojpkmfkjjkaa", sum := "4532300a5b0cc05f2af44e1b8884556c74060eee09b02041bc2ebdb5101fd303", func := "downtilt/downtiltlaw06.SchedBearers", spec := "schedBearers", unfollowed := true, recurses := true, apart := false }
def SchedBearersSaid : Prop := schedBearersRow.holds Try.pinned (OpenSpec.ofChange schedBearersSpec)

/-- ITS FALSE NEIGHBOUR: 'it returns false'. Refute it at one input. -/
def schedBearersWrong : ChangeSpec := { name := "schedBearers", fn := fun _ => fun
  | [d1, d2, d3] => { results := [.lit (.bool false)], args := [d1, d2, d3] }
  | _ => none }
def SchedBearersWrongFalsely : Prop := schedBearersRow.holds Try.pinned (OpenSpec.ofChange schedBearersWrong)

/-- 'downtiltlaw06.SchedDelays': WHATEVER THE INPUT: true; the input reads as it did. -/
def schedDelaysSpec : ChangeSpec := { name := "schedDelays", fn := fun _ => fun
  | [d1, d2, d3] => { results := [.lit (.bool true)], args := [d1, d2, d3] }
  | _ => none }
def schedDelaysRow : OpenClaim := { program := "ytabojpkmfkjjkaa", sum := "4532300a5b0cc05f2af44e1b8884556c74060eee09b02041bc2ebdb5101fd303", func := "downtilt/downtiltlaw06.SchedDelays", spec := "schedDelays", unfollowed := true, recurses := true, apart := false }
def SchedDelaysSaid : Prop := schedDelaysRow.holds Try.pinned (OpenSpec.ofChange schedDelaysSpec)

/-- ITS FALSE NEIGHBOUR: 'it returns false'. Refute it at one input. -/
def schedDelaysWrong : ChangeSpec := { name := "schedDelays", fn := fun _ => fun
  | [d1, d2, d3] => { results := [.lit (.bool false)], args := [d1, d2, d3] }
  | _ => none }
def SchedDelaysWrongFalsely : Prop := schedDelaysRow.holds Try.pinned (OpenSpec.ofChange schedDelaysWrong)

/-- 'downtiltlaw06.SchedTurns': WHATEVER THE INPUT: true; the input reads as it did. -/
def schedTurnsSpec : ChangeSpec := { name := "schedTurns", fn := fun _ => fun
  | [d1, d2] => { results := [.lit (.bool true)], args := [d1, d2] }
  | _ => none }
def schedTurnsRow : OpenClaim := { program := "ytabojpkmfkjjkaa", sum := "4532300a5b0cc05f2af44e1b8884556c74060eee09b02041bc2ebdb5101fd303", func := "downtilt/downtiltlaw06.SchedTurns", spec := "schedTurns", unfollowed := true, recurses := true, apart := false }
def SchedTurnsSaid : Prop := schedTurnsRow.holds Try.pinned (OpenSpec.ofChange schedTurnsSpec)

/-- ITS FALSE NEIGHBOUR: 'it returns false'. Refute it at one input. -/
def schedTurnsWrong : ChangeSpec := { name := "schedTurns", fn := fun _ => fun
  | [d1, d2] => { results := [.lit (.bool false)], args := [d1, d2] }
  | _ => none }
def SchedTurnsWrongFalsely : Prop := schedTurnsRow.holds Try.pinned (OpenSpec.ofChange schedTurnsWrong)

/-- 'downtiltlaw06.SchedContracts': WHATEVER THE INPUT: true; the input reads as it did. -/
def schedContractsSpec : ChangeSpec := { name := "schedContracts", fn := fun _ => fun
  | [d1, d2, d3] => { results := [.lit (.bool true)], args := [d1, d2, d3] }
  | _ => none }
def schedContractsRow : OpenClaim := { program := "ytabojpkmfkjjkaa", sum := "4532300a5b0cc05f2af44e1b8884556c74060eee09b02041bc2ebdb5101fd303", func := "downtilt/downtiltlaw06.SchedContracts", spec := "schedContracts", unfollowed := true, recurses := true, apart := false }
def SchedContractsSaid : Prop := schedContractsRow.holds Try.pinned (OpenSpec.ofChange schedContractsSpec)

/-- ITS FALSE NEIGHBOUR: 'it returns false'. Refute it at one input. -/
def schedContractsWrong : ChangeSpec := { name := "schedContracts", fn := fun _ => fun
  | [d1, d2, d3] => { results := [.lit (.bool false)], args := [d1, d2, d3] }
  | _ => none }
def SchedContractsWrongFalsely : Prop := schedContractsRow.holds Try.pinned (OpenSpec.ofChange schedContractsWrong)

/-- 'downtiltlaw06.SchedLoops': WHATEVER THE INPUT: true; the input reads as it did. -/
def schedLoopsSpec : ChangeSpec := { name := "schedLoops", fn := fun _ => fun
  | [d1, d2] => { results := [.lit (.bool true)], args := [d1, d2] }
  | _ => none }
def schedLoopsRow : OpenClaim := { program := "ytabojpkmfkjjkaa", sum := "4532300a5b0cc05f2af44e1b8884556c74060eee09b02041bc2ebdb5101fd303", func := "downtilt/downtiltlaw06.SchedLoops", spec := "schedLoops", unfollowed := true, recurses := true, apart := false }
def SchedLoopsSaid : Prop := schedLoopsRow.holds Try.pinned (OpenSpec.ofChange schedLoopsSpec)

/-- ITS FALSE NEIGHBOUR: 'it returns false'. Refute it at one input. -/
def schedLoopsWrong : ChangeSpec := { name := "schedLoops", fn := fun _ => fun
  | [d1, d2] => { results := [.lit (.bool false)], args := [d1, d2] }
  | _ => none }
def SchedLoopsWrongFalsely : Prop := schedLoopsRow.holds Try.pinned (OpenSpec.ofChange schedLoopsWrong)

/-- 'downtiltlaw06.SchedRuns': WHATEVER THE INPUT: true; the input reads as it did. -/
def schedRunsSpec : ChangeSpec := { name := "schedRuns", fn := fun _ => fun
  | [d1, d2, d3] => { results := [.lit (.bool true)], args := [d1, d2, d3] }
  | _ => none }
def schedRunsRow : OpenClaim := { program := "ytabojpkmfkjjkaa", sum := "4532300a5b0cc05f2af44e1b8884556c74060eee09b02041bc2ebdb5101fd303", func := "downtilt/downtiltlaw06.SchedRuns", spec := "schedRuns", unfollowed := true, recurses := true, apart := false }
def SchedRunsSaid : Prop := schedRunsRow.holds Try.pinned (OpenSpec.ofChange schedRunsSpec)

/-- ITS FALSE NEIGHBOUR: 'it returns false'. Refute it at one input. -/
def schedRunsWrong : ChangeSpec := { name := "schedRuns", fn := fun _ => fun
  | [d1, d2, d3] => { results := [.lit (.bool false)], args := [d1, d2, d3] }
  | _ => none }
def SchedRunsWrongFalsely : Prop := schedRunsRow.holds Try.pinned (OpenSpec.ofChange schedRunsWrong)

/-- 'downtiltlaw06.SchedBounds': WHATEVER THE INPUT: true; the input reads as it did. -/
def schedBoundsSpec : ChangeSpec := { name := "schedBounds", fn := fun _ => fun
  | [d1, d2, d3] => { results := [.lit (.bool true)], args := [d1, d2, d3] }
  | _ => none }
def schedBoundsRow : OpenClaim := { program := "ytabojpkmfkjjkaa", sum := "4532300a5b0cc05f2af44e1b8884556c74060eee09b02041bc2ebdb5101fd303", func := "downtilt/downtiltlaw06.SchedBounds", spec := "schedBounds", unfollowed := true, recurses := true, apart := false }
def SchedBoundsSaid : Prop := schedBoundsRow.holds Try.pinned (OpenSpec.ofChange schedBoundsSpec)

/-- ITS FALSE NEIGHBOUR: 'it returns false'. Refute it at one input. -/
def schedBoundsWrong : ChangeSpec := { name := "schedBounds", fn := fun _ => fun
  | [d1, d2, d3] => { results := [.lit (.bool false)], args := [d1, d2, d3] }
  | _ => none }
def SchedBoundsWrongFalsely : Prop := schedBoundsRow.holds Try.pinned (OpenSpec.ofChange schedBoundsWrong)

/-- 'downtiltlaw06.SchedReports': WHATEVER THE INPUT: true; the input reads as it did. -/
def schedReportsSpec : ChangeSpec := { name := "schedReports", fn := fun _ => fun
  | [d1, d2, d3] => { results := [.lit (.bool true)], args := [d1, d2, d3] }
  | _ => none }
def schedReportsRow : OpenClaim := { program := "ytabojpkmfkjjkaa", sum := "4532300a5b0cc05f2af44e1b8884556c74060eee09b02041bc2ebdb5101fd303", func := "downtilt/downtiltlaw06.SchedReports", spec := "schedReports", unfollowed := true, recurses := true, apart := false }
def SchedReportsSaid : Prop := schedReportsRow.holds Try.pinned (OpenSpec.ofChange schedReportsSpec)

/-- ITS FALSE NEIGHBOUR: 'it returns false'. Refute it at one input. -/
def schedReportsWrong : ChangeSpec := { name := "schedReports", fn := fun _ => fun
  | [d1, d2, d3] => { results := [.lit (.bool false)], args := [d1, d2, d3] }
  | _ => none }
def SchedReportsWrongFalsely : Prop := schedReportsRow.holds Try.pinned (OpenSpec.ofChange schedReportsWrong)

/-- 'downtiltlaw06.SchedKept': WHATEVER THE INPUT: true; the input reads as it did. -/
def schedKeptSpec : ChangeSpec := { name := "schedKept", fn := fun _ => fun
  | [d1, d2, d3] => { results := [.lit (.bool true)], args := [d1, d2, d3] }
  | _ => none }
def schedKeptRow : OpenClaim := { program := "ytabojpkmfkjjkaa", sum := "4532300a5b0cc05f2af44e1b8884556c74060eee09b02041bc2ebdb5101fd303", func := "downtilt/downtiltlaw06.SchedKept", spec := "schedKept", unfollowed := true, recurses := true, apart := false }
def SchedKeptSaid : Prop := schedKeptRow.holds Try.pinned (OpenSpec.ofChange schedKeptSpec)

/-- ITS FALSE NEIGHBOUR: 'it returns false'. Refute it at one input. -/
def schedKeptWrong : ChangeSpec := { name := "schedKept", fn := fun _ => fun
  | [d1, d2, d3] => { results := [.lit (.bool false)], args := [d1, d2, d3] }
  | _ => none }
def SchedKeptWrongFalsely : Prop := schedKeptRow.holds Try.pinned (OpenSpec.ofChange schedKeptWrong)

/-- 'downtilttop.TopSchedNoFairerShare': WHATEVER THE INPUT: true; the input reads as it did. -/
def topSchedNoFairerShareSpec : ChangeSpec := { name := "topSchedNoFairerShare", fn := fun _ => fun
  | [d1, d2, d3] => { results := [.lit (.bool true)], args := [d1, d2, d3] }
  | _ => none }
def topSchedNoFairerShareRow : OpenClaim := { program := "ytabojpkmfkjjkaa", sum := "4532300a5b0cc05f2af44e1b8884556c74060eee09b02041bc2ebdb5101fd303", func := "downtilt/downtilttop.TopSchedNoFairerShare", spec := "topSchedNoFairerShare", unfollowed := true, recurses := true, apart := false }
def TopSchedNoFairerShareSaid : Prop := topSchedNoFairerShareRow.holds Try.pinned (OpenSpec.ofChange topSchedNoFairerShareSpec)

/-- ITS FALSE NEIGHBOUR: 'it returns false'. Refute it at one input. -/
def topSchedNoFairerShareWrong : ChangeSpec := { name := "topSchedNoFairerShare", fn := fun _ => fun
  | [d1, d2, d3] => { results := [.lit (.bool false)], args := [d1, d2, d3] }
  | _ => none }
def TopSchedNoFairerShareWrongFalsely : Prop := topSchedNoFairerShareRow.holds Try.pinned (OpenSpec.ofChange topSchedNoFairerShareWrong)

/-- 'downtiltlaw06.SchedNoFairer': WHATEVER THE INPUT: true; the input reads as it did. -/
def schedNoFairerSpec : ChangeSpec := { name := "schedNoFairer", fn := fun _ => fun
  | [d1, d2, d3] => { results := [.lit (.bool true)], args := [d1, d2, d3] }
  | _ => none }
def schedNoFairerRow : OpenClaim := { program := "ytabojpkmfkjjkaa", sum := "4532300a5b0cc05f2af44e1b8884556c74060eee09b02041bc2ebdb5101fd303", func := "downtilt/downtiltlaw06.SchedNoFairer", spec := "schedNoFairer", unfollowed := true, recurses := true, apart := false }
def SchedNoFairerSaid : Prop := schedNoFairerRow.holds Try.pinned (OpenSpec.ofChange schedNoFairerSpec)

/-- ITS FALSE NEIGHBOUR: 'it returns false'. Refute it at one input. -/
def schedNoFairerWrong : ChangeSpec := { name := "schedNoFairer", fn := fun _ => fun
  | [d1, d2, d3] => { results := [.lit (.bool false)], args := [d1, d2, d3] }
  | _ => none }
def SchedNoFairerWrongFalsely : Prop := schedNoFairerRow.holds Try.pinned (OpenSpec.ofChange schedNoFairerWrong)

/- THE SECOND FORM. 'bulk': how many values and letters a reading holds, each counted each time it is reached (what is shared counts as often as it is met; a slice's spare places count too). A statement '..UptoSaid' is the law's where the arguments, and the package variables that the reading takes, are together of bulk at most 1048576: NARROWER than '..Said'. Prove '..Said' where nothing that the law and all that it calls make is longer than what came in: it says more and counts as full. Else prove '..UptoSaid'. A law counts once. -/
mutual
def uptoBulk {H : Type} : DataW H → Nat
  | .lit (.string bytes) => bytes.length + 1
  | .lit _ => 1
  | .nil => 1
  | .ptr d => uptoBulk d + 1
  | .slice elems spare => uptoBulkAll elems + uptoBulkAll spare + 1
  | .agg parts => uptoBulkAll parts + 1
  | .iface _ d => uptoBulk d + 1
  | .map entries => uptoBulkEntries entries + 1
  | .held _ => 1
def uptoBulkAll {H : Type} : List (DataW H) → Nat
  | [] => 0
  | d :: r => uptoBulk d + uptoBulkAll r
def uptoBulkEntries {H : Type} : List (Lit × DataW H) → Nat
  | [] => 0
  | x :: r => uptoBulkEntry x + uptoBulkEntries r
def uptoBulkEntry {H : Type} : Lit × DataW H → Nat
  | (.string bytes, d) => bytes.length + uptoBulk d + 1
  | (_, d) => uptoBulk d + 1
 end
def uptoSmall : (H : Type) → List (DataW H) → Bool := fun _ ds => decide (uptoBulkAll ds ≤ 1048576)
def OpenSpec.upto (s : _root_.Go.ChangeSpec) : _root_.Go.OpenSpec := { _root_.Go.OpenSpec.ofChange s with cond := some uptoSmall }

/-- 'downtiltlaw06.SchedAdmits', WHERE WHAT IT READS IS OF BULK AT MOST 1048576: true; the input reads as it did. -/
def schedAdmitsUptoRow : OpenClaim := { program := "ytabojpkmfkjjkaa", sum := "4532300a5b0cc05f2af44e1b8884556c74060eee09b02041bc2ebdb5101fd303", func := "downtilt/downtiltlaw06.SchedAdmits", spec := "schedAdmits", unfollowed := true, recurses := true, apart := false, narrowed := true }
def SchedAdmitsUptoSaid : Prop := schedAdmitsUptoRow.holds Try.pinned (OpenSpec.upto schedAdmitsSpec)

/-- 'downtiltlaw06.SchedNeverRefused', WHERE WHAT IT READS IS OF BULK AT MOST 1048576: true; the input reads as it did. -/
def schedNeverRefusedUptoRow : OpenClaim := { program := "ytabojpkmfkjjkaa", sum := "4532300a5b0cc05f2af44e1b8884556c74060eee09b02041bc2ebdb5101fd303", func := "downtilt/downtiltlaw06.SchedNeverRefused", spec := "schedNeverRefused", unfollowed := true, recurses := true, apart := false, narrowed := true }
def SchedNeverRefusedUptoSaid : Prop := schedNeverRefusedUptoRow.holds Try.pinned (OpenSpec.upto schedNeverRefusedSpec)

/-- 'downtiltlaw06.SchedIdle', WHERE WHAT IT READS IS OF BULK AT MOST 1048576: true; the input reads as it did. -/
def schedIdleUptoRow : OpenClaim := { program := "ytabojpkmfkjjkaa", sum := "4532300a5b0cc05f2af44e1b8884556c74060eee09b02041bc2ebdb5101fd303", func := "downtilt/downtiltlaw06.SchedIdle", spec := "schedIdle", unfollowed := true, recurses := true, apart := false, narrowed := true }
def SchedIdleUptoSaid : Prop := schedIdleUptoRow.holds Try.pinned (OpenSpec.upto schedIdleSpec)

/-- 'downtiltlaw06.SchedBearers', WHERE WHAT IT READS IS OF BULK AT MOST 1048576: true; the input reads as it did. -/
def schedBearersUptoRow : OpenClaim := { program := "ytabojpkmfkjjkaa", sum := "4532300a5b0cc05f2af44e1b8884556c74060eee09b02041bc2ebdb5101fd303", func := "downtilt/downtiltlaw06.SchedBearers", spec := "schedBearers", unfollowed := true, recurses := true, apart := false, narrowed := true }
def SchedBearersUptoSaid : Prop := schedBearersUptoRow.holds Try.pinned (OpenSpec.upto schedBearersSpec)

/-- 'downtiltlaw06.SchedDelays', WHERE WHAT IT READS IS OF BULK AT MOST 1048576: true; the input reads as it did. -/
def schedDelaysUptoRow : OpenClaim := { program := "ytabojpkmfkjjkaa", sum := "4532300a5b0cc05f2af44e1b8884556c74060eee09b02041bc2ebdb5101fd303", func := "downtilt/downtiltlaw06.SchedDelays", spec := "schedDelays", unfollowed := true, recurses := true, apart := false, narrowed := true }
def SchedDelaysUptoSaid : Prop := schedDelaysUptoRow.holds Try.pinned (OpenSpec.upto schedDelaysSpec)

/-- 'downtiltlaw06.SchedTurns', WHERE WHAT IT READS IS OF BULK AT MOST 1048576: true; the input reads as it did. -/
def schedTurnsUptoRow : OpenClaim := { program := "ytabojpkmfkjjkaa", sum := "4532300a5b0cc05f2af44e1b8884556c74060eee09b02041bc2ebdb5101fd303", func := "downtilt/downtiltlaw06.SchedTurns", spec := "schedTurns", unfollowed := true, recurses := true, apart := false, narrowed := true }
def SchedTurnsUptoSaid : Prop := schedTurnsUptoRow.holds Try.pinned (OpenSpec.upto schedTurnsSpec)

/-- 'downtiltlaw06.SchedContracts', WHERE WHAT IT READS IS OF BULK AT MOST 1048576: true; the input reads as it did. -/
def schedContractsUptoRow : OpenClaim := { program := "ytabojpkmfkjjkaa", sum := "4532300a5b0cc05f2af44e1b8884556c74060eee09b02041bc2ebdb5101fd303", func := "downtilt/downtiltlaw06.SchedContracts", spec := "schedContracts", unfollowed := true, recurses := true, apart := false, narrowed := true }
def SchedContractsUptoSaid : Prop := schedContractsUptoRow.holds Try.pinned (OpenSpec.upto schedContractsSpec)

/-- 'downtiltlaw06.SchedLoops', WHERE WHAT IT READS IS OF BULK AT MOST 1048576: true; the input reads as it did. -/
def schedLoopsUptoRow : OpenClaim := { program := "ytabojpkmfkjjkaa", sum := "4532300a5b0cc05f2af44e1b8884556c74060eee09b02041bc2ebdb5101fd303", func := "downtilt/downtiltlaw06.SchedLoops", spec := "schedLoops", unfollowed := true, recurses := true, apart := false, narrowed := true }
def SchedLoopsUptoSaid : Prop := schedLoopsUptoRow.holds Try.pinned (OpenSpec.upto schedLoopsSpec)

/-- 'downtiltlaw06.SchedRuns', WHERE WHAT IT READS IS OF BULK AT MOST 1048576: true; the input reads as it did. -/
def schedRunsUptoRow : OpenClaim := { program := "ytabojpkmfkjjkaa", sum := "4532300a5b0cc05f2af44e1b8884556c74060eee09b02041bc2ebdb5101fd303", func := "downtilt/downtiltlaw06.SchedRuns", spec := "schedRuns", unfollowed := true, recurses := true, apart := false, narrowed := true }
def SchedRunsUptoSaid : Prop := schedRunsUptoRow.holds Try.pinned (OpenSpec.upto schedRunsSpec)

/-- 'downtiltlaw06.SchedBounds', WHERE WHAT IT READS IS OF BULK AT MOST 1048576: true; the input reads as it did. -/
def schedBoundsUptoRow : OpenClaim := { program := "ytabojpkmfkjjkaa", sum := "4532300a5b0cc05f2af44e1b8884556c74060eee09b02041bc2ebdb5101fd303", func := "downtilt/downtiltlaw06.SchedBounds", spec := "schedBounds", unfollowed := true, recurses := true, apart := false, narrowed := true }
def SchedBoundsUptoSaid : Prop := schedBoundsUptoRow.holds Try.pinned (OpenSpec.upto schedBoundsSpec)

/-- 'downtiltlaw06.SchedReports', WHERE WHAT IT READS IS OF BULK AT MOST 1048576: true; the input reads as it did. -/
def schedReportsUptoRow : OpenClaim := { program := "ytabojpkmfkjjkaa", sum := "4532300a5b0cc05f2af44e1b8884556c74060eee09b02041bc2ebdb5101fd303", func := "downtilt/downtiltlaw06.SchedReports", spec := "schedReports", unfollowed := true, recurses := true, apart := false, narrowed := true }
def SchedReportsUptoSaid : Prop := schedReportsUptoRow.holds Try.pinned (OpenSpec.upto schedReportsSpec)

/-- 'downtiltlaw06.SchedKept', WHERE WHAT IT READS IS OF BULK AT MOST 1048576: true; the input reads as it did. -/
def schedKeptUptoRow : OpenClaim := { program := "ytabojpkmfkjjkaa", sum := "4532300a5b0cc05f2af44e1b8884556c74060eee09b02041bc2ebdb5101fd303", func := "downtilt/downtiltlaw06.SchedKept", spec := "schedKept", unfollowed := true, recurses := true, apart := false, narrowed := true }
def SchedKeptUptoSaid : Prop := schedKeptUptoRow.holds Try.pinned (OpenSpec.upto schedKeptSpec)

/-- 'downtilttop.TopSchedNoFairerShare', WHERE WHAT IT READS IS OF BULK AT MOST 1048576: true; the input reads as it did. -/
def topSchedNoFairerShareUptoRow : OpenClaim := { program := "ytabojpkmfkjjkaa", sum := "4532300a5b0cc05f2af44e1b8884556c74060eee09b02041bc2ebdb5101fd303", func := "downtilt/downtilttop.TopSchedNoFairerShare", spec := "topSchedNoFairerShare", unfollowed := true, recurses := true, apart := false, narrowed := true }
def TopSchedNoFairerShareUptoSaid : Prop := topSchedNoFairerShareUptoRow.holds Try.pinned (OpenSpec.upto topSchedNoFairerShareSpec)

/-- 'downtiltlaw06.SchedNoFairer', WHERE WHAT IT READS IS OF BULK AT MOST 1048576: true; the input reads as it did. -/
def schedNoFairerUptoRow : OpenClaim := { program := "ytabojpkmfkjjkaa", sum := "4532300a5b0cc05f2af44e1b8884556c74060eee09b02041bc2ebdb5101fd303", func := "downtilt/downtiltlaw06.SchedNoFairer", spec := "schedNoFairer", unfollowed := true, recurses := true, apart := false, narrowed := true }
def SchedNoFairerUptoSaid : Prop := schedNoFairerUptoRow.holds Try.pinned (OpenSpec.upto schedNoFairerSpec)

end Rows
end Go.Proofs.Ytabojpkmfkjjkaa
