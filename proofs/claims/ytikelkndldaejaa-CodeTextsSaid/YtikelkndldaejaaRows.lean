/-
  No cell of these rows narrows 'for every input' (looked for: loops, veiled, ifaces, maps, wideKeys, modest, calm, conditions, laid).
  DERIVED. THE GIVEN ROWS OF THIS SEAT. 14 by the template 'for every input the law returns true; each argument reads behind the call as it read before'; 0 by the template 'total and deterministic' (their statements: YtikelkndldaejaaTotals.lean).
  GIVEN WITH THE SEED: the statements are not yours to turn. If you find one false, say at which input.
  Laid BY PROGRAM, IN A SANDBOX (cutbox-rows.mjs): the forced cells as the released guide's own fill.sh prints them over the translation 9bef79036544cec9… (all of the seat's roots in one cut). By AI agents, Wed Nov 11 2026. No macro, syntax, notation, axiom, sorry.
-/
import Derived.Test.YtikelkndldaejaaChecked
import GoSem.Claim
import GoSem.ClaimJoined
import GoSem.ClaimMapViews
import Derived.JoinedTies
import Derived.KernelRfl
namespace Go.Proofs.Ytikelkndldaejaa
/- THE CELL 'sum', in the pinned program and in every row, IS THE sha256 OF THE DUMP (.gsa) THAT YtikelkndldaejaaProg.lean LOADS. Nothing in Lean hashes anything: it is a label: what it is worth is what the hold of that sum in a sandbox is worth. -/
noncomputable def Try.pinned : Pinned := { name := "ytikelkndldaejaa", sum := "9bef79036544cec9b3adfade670f44118fd25769be9e746dbef182258249f3ad", checked := Try.checked }
namespace Rows
def none {H : Type} : Left H := { results := [], args := [] }

/-- 'downtiltlaw02.CodeDecoded': WHATEVER THE INPUT: true; the input reads as it did. -/
def codeDecodedSpec : ChangeSpec := { name := "codeDecoded", fn := fun _ => fun
  | [d1, d2, d3] => { results := [.lit (.bool true)], args := [d1, d2, d3] }
  | _ => none }
def codeDecodedRow : OpenClaim := { program := "ytikelkndldaejaa", sum := "9bef79036544cec9b3adfade670f44118fd25769be9e746dbef182258249f3ad", func := "downtilt/downtiltlaw02.CodeDecoded", spec := "codeDecoded", unfollowed := true, recurses := true, apart := false }
def CodeDecodedSaid : Prop := codeDecodedRow.holds Try.pinned (OpenSpec.ofChange codeDecodedSpec)

/-- ITS FALSE NEIGHBOUR: 'it returns false'. Refute it at one input. -/
def codeDecodedWrong : ChangeSpec := { name := "codeDecoded", fn := fun _ => fun
  | [d1, d2, d3] => { results := [.lit (.bool false)], args := [d1, d2, d3] }
  | _ => none }
def CodeDecodedWrongFalsely : Prop := codeDecodedRow.holds Try.pinned (OpenSpec.ofChange codeDecodedWrong)

/-- 'downtiltlaw02.CodeVersions': WHATEVER THE INPUT: true; the input reads as it did. -/
def codeVersionsSpec : ChangeSpec := { name := "codeVersions", fn := fun _ => fun
  | [d1, d2, d3] => { results := [.lit (.bool true)], args := [d1, d2, d3] }
  | _ => none }
def codeVersionsRow : OpenClaim := { program := "ytikelkndldaejaa", sum := "9bef79036544cec9b3adfade670f44118fd25769be9e746dbef182258249f3ad", func := "downtilt/downtiltlaw02.CodeVersions", spec := "codeVersions", unfollowed := true, recurses := true, apart := false }
def CodeVersionsSaid : Prop := codeVersionsRow.holds Try.pinned (OpenSpec.ofChange codeVersionsSpec)

/-- ITS FALSE NEIGHBOUR: 'it returns false'. Refute it at one input. -/
def codeVersionsWrong : ChangeSpec := { name := "codeVersions", fn := fun _ => fun
  | [d1, d2, d3] => { results := [.lit (.bool false)], args := [d1, d2, d3] }
  | _ => none }
def CodeVersionsWrongFalsely : Prop := codeVersionsRow.holds Try.pinned (OpenSpec.ofChange codeVersionsWrong)

/-- 'downtiltlaw02.CodeTexts': WHATEVER THE INPUT: true; the input reads as it did. -/
def codeTextsSpec : ChangeSpec := { name := "codeTexts", fn := fun _ => fun
  | [d1, d2] => { results := [.lit (.bool true)], args := [d1, d2] }
  | _ => none }
def codeTextsRow : OpenClaim := { program := "ytikelkndldaejaa", sum := "9bef79036544cec9b3adfade670f44118fd25769be9e746dbef182258249f3ad", func := "downtilt/downtiltlaw02.CodeTexts", spec := "codeTexts", inPlace := ["internal/abi.NoEscape"], unfollowed := true, recurses := true, apart := false }
def CodeTextsSaid : Prop := codeTextsRow.holds Try.pinned (OpenSpec.ofChange codeTextsSpec)

/-- ITS FALSE NEIGHBOUR: 'it returns false'. Refute it at one input. -/
def codeTextsWrong : ChangeSpec := { name := "codeTexts", fn := fun _ => fun
  | [d1, d2] => { results := [.lit (.bool false)], args := [d1, d2] }
  | _ => none }
def CodeTextsWrongFalsely : Prop := codeTextsRow.holds Try.pinned (OpenSpec.ofChange codeTextsWrong)

/-- 'downtiltlaw02.CodeDistance': WHATEVER THE INPUT: true; the input reads as it did. -/
def codeDistanceSpec : ChangeSpec := { name := "codeDistance", fn := fun _ => fun
  | [d1, d2, d3] => { results := [.lit (.bool true)], args := [d1, d2, d3] }
  | _ => none }
def codeDistanceRow : OpenClaim := { program := "ytikelkndldaejaa", sum := "9bef79036544cec9b3adfade670f44118fd25769be9e746dbef182258249f3ad", func := "downtilt/downtiltlaw02.CodeDistance", spec := "codeDistance", unfollowed := true, recurses := true, apart := false }
def CodeDistanceSaid : Prop := codeDistanceRow.holds Try.pinned (OpenSpec.ofChange codeDistanceSpec)

/-- ITS FALSE NEIGHBOUR: 'it returns false'. Refute it at one input. -/
def codeDistanceWrong : ChangeSpec := { name := "codeDistance", fn := fun _ => fun
  | [d1, d2, d3] => { results := [.lit (.bool false)], args := [d1, d2, d3] }
  | _ => none }
def CodeDistanceWrongFalsely : Prop := codeDistanceRow.holds Try.pinned (OpenSpec.ofChange codeDistanceWrong)

/-- 'downtiltlaw02.CodeChecks': WHATEVER THE INPUT: true; the input reads as it did. -/
def codeChecksSpec : ChangeSpec := { name := "codeChecks", fn := fun _ => fun
  | [d1, d2] => { results := [.lit (.bool true)], args := [d1, d2] }
  | _ => none }
def codeChecksRow : OpenClaim := { program := "ytikelkndldaejaa", sum := "9bef79036544cec9b3adfade670f44118fd25769be9e746dbef182258249f3ad", func := "downtilt/downtiltlaw02.CodeChecks", spec := "codeChecks", unfollowed := true, recurses := true, apart := false }
def CodeChecksSaid : Prop := codeChecksRow.holds Try.pinned (OpenSpec.ofChange codeChecksSpec)

/-- ITS FALSE NEIGHBOUR: 'it returns false'. Refute it at one input. -/
def codeChecksWrong : ChangeSpec := { name := "codeChecks", fn := fun _ => fun
  | [d1, d2] => { results := [.lit (.bool false)], args := [d1, d2] }
  | _ => none }
def CodeChecksWrongFalsely : Prop := codeChecksRow.holds Try.pinned (OpenSpec.ofChange codeChecksWrong)

/-- 'downtiltlaw02.CodeCatches': WHATEVER THE INPUT: true; the input reads as it did. -/
def codeCatchesSpec : ChangeSpec := { name := "codeCatches", fn := fun _ => fun
  | [d1, d2, d3] => { results := [.lit (.bool true)], args := [d1, d2, d3] }
  | _ => none }
def codeCatchesRow : OpenClaim := { program := "ytikelkndldaejaa", sum := "9bef79036544cec9b3adfade670f44118fd25769be9e746dbef182258249f3ad", func := "downtilt/downtiltlaw02.CodeCatches", spec := "codeCatches", unfollowed := true, recurses := true, apart := false }
def CodeCatchesSaid : Prop := codeCatchesRow.holds Try.pinned (OpenSpec.ofChange codeCatchesSpec)

/-- ITS FALSE NEIGHBOUR: 'it returns false'. Refute it at one input. -/
def codeCatchesWrong : ChangeSpec := { name := "codeCatches", fn := fun _ => fun
  | [d1, d2, d3] => { results := [.lit (.bool false)], args := [d1, d2, d3] }
  | _ => none }
def CodeCatchesWrongFalsely : Prop := codeCatchesRow.holds Try.pinned (OpenSpec.ofChange codeCatchesWrong)

/-- 'downtiltlaw02.CodeChains': WHATEVER THE INPUT: true; the input reads as it did. -/
def codeChainsSpec : ChangeSpec := { name := "codeChains", fn := fun _ => fun
  | [d1, d2, d3] => { results := [.lit (.bool true)], args := [d1, d2, d3] }
  | _ => none }
def codeChainsRow : OpenClaim := { program := "ytikelkndldaejaa", sum := "9bef79036544cec9b3adfade670f44118fd25769be9e746dbef182258249f3ad", func := "downtilt/downtiltlaw02.CodeChains", spec := "codeChains", unfollowed := true, recurses := true, apart := false }
def CodeChainsSaid : Prop := codeChainsRow.holds Try.pinned (OpenSpec.ofChange codeChainsSpec)

/-- ITS FALSE NEIGHBOUR: 'it returns false'. Refute it at one input. -/
def codeChainsWrong : ChangeSpec := { name := "codeChains", fn := fun _ => fun
  | [d1, d2, d3] => { results := [.lit (.bool false)], args := [d1, d2, d3] }
  | _ => none }
def CodeChainsWrongFalsely : Prop := codeChainsRow.holds Try.pinned (OpenSpec.ofChange codeChainsWrong)

/-- 'downtiltlaw02.CodeBuffers': WHATEVER THE INPUT: true; the input reads as it did. -/
def codeBuffersSpec : ChangeSpec := { name := "codeBuffers", fn := fun _ => fun
  | [d1, d2, d3] => { results := [.lit (.bool true)], args := [d1, d2, d3] }
  | _ => none }
def codeBuffersRow : OpenClaim := { program := "ytikelkndldaejaa", sum := "9bef79036544cec9b3adfade670f44118fd25769be9e746dbef182258249f3ad", func := "downtilt/downtiltlaw02.CodeBuffers", spec := "codeBuffers", unfollowed := true, recurses := true, apart := false }
def CodeBuffersSaid : Prop := codeBuffersRow.holds Try.pinned (OpenSpec.ofChange codeBuffersSpec)

/-- ITS FALSE NEIGHBOUR: 'it returns false'. Refute it at one input. -/
def codeBuffersWrong : ChangeSpec := { name := "codeBuffers", fn := fun _ => fun
  | [d1, d2, d3] => { results := [.lit (.bool false)], args := [d1, d2, d3] }
  | _ => none }
def CodeBuffersWrongFalsely : Prop := codeBuffersRow.holds Try.pinned (OpenSpec.ofChange codeBuffersWrong)

/-- 'downtiltlaw02.CodeNeverMixed': WHATEVER THE INPUT: true; the input reads as it did. -/
def codeNeverMixedSpec : ChangeSpec := { name := "codeNeverMixed", fn := fun _ => fun
  | [d1, d2] => { results := [.lit (.bool true)], args := [d1, d2] }
  | _ => none }
def codeNeverMixedRow : OpenClaim := { program := "ytikelkndldaejaa", sum := "9bef79036544cec9b3adfade670f44118fd25769be9e746dbef182258249f3ad", func := "downtilt/downtiltlaw02.CodeNeverMixed", spec := "codeNeverMixed", unfollowed := true, recurses := true, apart := false }
def CodeNeverMixedSaid : Prop := codeNeverMixedRow.holds Try.pinned (OpenSpec.ofChange codeNeverMixedSpec)

/-- ITS FALSE NEIGHBOUR: 'it returns false'. Refute it at one input. -/
def codeNeverMixedWrong : ChangeSpec := { name := "codeNeverMixed", fn := fun _ => fun
  | [d1, d2] => { results := [.lit (.bool false)], args := [d1, d2] }
  | _ => none }
def CodeNeverMixedWrongFalsely : Prop := codeNeverMixedRow.holds Try.pinned (OpenSpec.ofChange codeNeverMixedWrong)

/-- 'downtiltlaw02.CodeParities': WHATEVER THE INPUT: true; the input reads as it did. -/
def codeParitiesSpec : ChangeSpec := { name := "codeParities", fn := fun _ => fun
  | [d1, d2, d3] => { results := [.lit (.bool true)], args := [d1, d2, d3] }
  | _ => none }
def codeParitiesRow : OpenClaim := { program := "ytikelkndldaejaa", sum := "9bef79036544cec9b3adfade670f44118fd25769be9e746dbef182258249f3ad", func := "downtilt/downtiltlaw02.CodeParities", spec := "codeParities", unfollowed := true, recurses := true, apart := false }
def CodeParitiesSaid : Prop := codeParitiesRow.holds Try.pinned (OpenSpec.ofChange codeParitiesSpec)

/-- ITS FALSE NEIGHBOUR: 'it returns false'. Refute it at one input. -/
def codeParitiesWrong : ChangeSpec := { name := "codeParities", fn := fun _ => fun
  | [d1, d2, d3] => { results := [.lit (.bool false)], args := [d1, d2, d3] }
  | _ => none }
def CodeParitiesWrongFalsely : Prop := codeParitiesRow.holds Try.pinned (OpenSpec.ofChange codeParitiesWrong)

/-- 'downtiltlaw02.CodeFlips': WHATEVER THE INPUT: true; the input reads as it did. -/
def codeFlipsSpec : ChangeSpec := { name := "codeFlips", fn := fun _ => fun
  | [d1, d2, d3] => { results := [.lit (.bool true)], args := [d1, d2, d3] }
  | _ => none }
def codeFlipsRow : OpenClaim := { program := "ytikelkndldaejaa", sum := "9bef79036544cec9b3adfade670f44118fd25769be9e746dbef182258249f3ad", func := "downtilt/downtiltlaw02.CodeFlips", spec := "codeFlips", unfollowed := true, recurses := true, apart := false }
def CodeFlipsSaid : Prop := codeFlipsRow.holds Try.pinned (OpenSpec.ofChange codeFlipsSpec)

/-- ITS FALSE NEIGHBOUR: 'it returns false'. Refute it at one input. -/
def codeFlipsWrong : ChangeSpec := { name := "codeFlips", fn := fun _ => fun
  | [d1, d2, d3] => { results := [.lit (.bool false)], args := [d1, d2, d3] }
  | _ => none }
def CodeFlipsWrongFalsely : Prop := codeFlipsRow.holds Try.pinned (OpenSpec.ofChange codeFlipsWrong)

/-- 'downtiltlaw02.CodeSegments': WHATEVER THE INPUT: true; the input reads as it did. -/
def codeSegmentsSpec : ChangeSpec := { name := "codeSegments", fn := fun _ => fun
  | [d1, d2, d3] => { results := [.lit (.bool true)], args := [d1, d2, d3] }
  | _ => none }
def codeSegmentsRow : OpenClaim := { program := "ytikelkndldaejaa", sum := "9bef79036544cec9b3adfade670f44118fd25769be9e746dbef182258249f3ad", func := "downtilt/downtiltlaw02.CodeSegments", spec := "codeSegments", unfollowed := true, recurses := true, apart := false }
def CodeSegmentsSaid : Prop := codeSegmentsRow.holds Try.pinned (OpenSpec.ofChange codeSegmentsSpec)

/-- ITS FALSE NEIGHBOUR: 'it returns false'. Refute it at one input. -/
def codeSegmentsWrong : ChangeSpec := { name := "codeSegments", fn := fun _ => fun
  | [d1, d2, d3] => { results := [.lit (.bool false)], args := [d1, d2, d3] }
  | _ => none }
def CodeSegmentsWrongFalsely : Prop := codeSegmentsRow.holds Try.pinned (OpenSpec.ofChange codeSegmentsWrong)

/-- 'downtilttop.TopCodeRecovered': WHATEVER THE INPUT: true; the input reads as it did. -/
def topCodeRecoveredSpec : ChangeSpec := { name := "topCodeRecovered", fn := fun _ => fun
  | [d1, d2, d3] => { results := [.lit (.bool true)], args := [d1, d2, d3] }
  | _ => none }
def topCodeRecoveredRow : OpenClaim := { program := "ytikelkndldaejaa", sum := "9bef79036544cec9b3adfade670f44118fd25769be9e746dbef182258249f3ad", func := "downtilt/downtilttop.TopCodeRecovered", spec := "topCodeRecovered", unfollowed := true, recurses := true, apart := false }
def TopCodeRecoveredSaid : Prop := topCodeRecoveredRow.holds Try.pinned (OpenSpec.ofChange topCodeRecoveredSpec)

/-- ITS FALSE NEIGHBOUR: 'it returns false'. Refute it at one input. -/
def topCodeRecoveredWrong : ChangeSpec := { name := "topCodeRecovered", fn := fun _ => fun
  | [d1, d2, d3] => { results := [.lit (.bool false)], args := [d1, d2, d3] }
  | _ => none }
def TopCodeRecoveredWrongFalsely : Prop := topCodeRecoveredRow.holds Try.pinned (OpenSpec.ofChange topCodeRecoveredWrong)

/-- 'downtilttop.TopCodeSegmented': WHATEVER THE INPUT: true; the input reads as it did. -/
def topCodeSegmentedSpec : ChangeSpec := { name := "topCodeSegmented", fn := fun _ => fun
  | [d1, d2, d3] => { results := [.lit (.bool true)], args := [d1, d2, d3] }
  | _ => none }
def topCodeSegmentedRow : OpenClaim := { program := "ytikelkndldaejaa", sum := "9bef79036544cec9b3adfade670f44118fd25769be9e746dbef182258249f3ad", func := "downtilt/downtilttop.TopCodeSegmented", spec := "topCodeSegmented", unfollowed := true, recurses := true, apart := false }
def TopCodeSegmentedSaid : Prop := topCodeSegmentedRow.holds Try.pinned (OpenSpec.ofChange topCodeSegmentedSpec)

/-- ITS FALSE NEIGHBOUR: 'it returns false'. Refute it at one input. -/
def topCodeSegmentedWrong : ChangeSpec := { name := "topCodeSegmented", fn := fun _ => fun
  | [d1, d2, d3] => { results := [.lit (.bool false)], args := [d1, d2, d3] }
  | _ => none }
def TopCodeSegmentedWrongFalsely : Prop := topCodeSegmentedRow.holds Try.pinned (OpenSpec.ofChange topCodeSegmentedWrong)

/- THE SECOND FORM. 'bulk': how many values and letters a reading holds, each counted each time it is reached (what is shared counts as often as it is met; a slice's spare places count too). A statement '..UptoSaid' is the law's where the arguments, and the package variables that the reading takes, are together of bulk at most 1048576: NARROWER than '..Said'. Prove '..Said' where nothing that the law and all that it calls make is longer than what came in: it says more and counts as full. Else prove '..UptoSaid'. A law counts once. -/
mutual
def uptoBulk {H : Type} : DataW H → Nat
  | .lit (.string bytes) => bytes.length + 1
  | .lit _ => 1
  | .nil => 1
  | .ptr d => uptoBulk d + 1
  | .slice elems spare => uptoBulkAll elems + uptoBulkAll spare + 1
  | .agg parts => uptoBulkAll parts + 1
  | .iface _ d => uptoBulk d + 1
  | .map entries => uptoBulkEntries entries + 1
  | .held _ => 1
def uptoBulkAll {H : Type} : List (DataW H) → Nat
  | [] => 0
  | d :: r => uptoBulk d + uptoBulkAll r
def uptoBulkEntries {H : Type} : List (Lit × DataW H) → Nat
  | [] => 0
  | x :: r => uptoBulkEntry x + uptoBulkEntries r
def uptoBulkEntry {H : Type} : Lit × DataW H → Nat
  | (.string bytes, d) => bytes.length + uptoBulk d + 1
  | (_, d) => uptoBulk d + 1
 end
def uptoSmall : (H : Type) → List (DataW H) → Bool := fun _ ds => decide (uptoBulkAll ds ≤ 1048576)
def OpenSpec.upto (s : _root_.Go.ChangeSpec) : _root_.Go.OpenSpec := { _root_.Go.OpenSpec.ofChange s with cond := some uptoSmall }

/-- 'downtiltlaw02.CodeDecoded', WHERE WHAT IT READS IS OF BULK AT MOST 1048576: true; the input reads as it did. -/
def codeDecodedUptoRow : OpenClaim := { program := "ytikelkndldaejaa", sum := "9bef79036544cec9b3adfade670f44118fd25769be9e746dbef182258249f3ad", func := "downtilt/downtiltlaw02.CodeDecoded", spec := "codeDecoded", unfollowed := true, recurses := true, apart := false, narrowed := true }
def CodeDecodedUptoSaid : Prop := codeDecodedUptoRow.holds Try.pinned (OpenSpec.upto codeDecodedSpec)

/-- 'downtiltlaw02.CodeVersions', WHERE WHAT IT READS IS OF BULK AT MOST 1048576: true; the input reads as it did. -/
def codeVersionsUptoRow : OpenClaim := { program := "ytikelkndldaejaa", sum := "9bef79036544cec9b3adfade670f44118fd25769be9e746dbef182258249f3ad", func := "downtilt/downtiltlaw02.CodeVersions", spec := "codeVersions", unfollowed := true, recurses := true, apart := false, narrowed := true }
def CodeVersionsUptoSaid : Prop := codeVersionsUptoRow.holds Try.pinned (OpenSpec.upto codeVersionsSpec)

/-- 'downtiltlaw02.CodeTexts', WHERE WHAT IT READS IS OF BULK AT MOST 1048576: true; the input reads as it did. -/
def codeTextsUptoRow : OpenClaim := { program := "ytikelkndldaejaa", sum := "9bef79036544cec9b3adfade670f44118fd25769be9e746dbef182258249f3ad", func := "downtilt/downtiltlaw02.CodeTexts", spec := "codeTexts", inPlace := ["internal/abi.NoEscape"], unfollowed := true, recurses := true, apart := false, narrowed := true }
def CodeTextsUptoSaid : Prop := codeTextsUptoRow.holds Try.pinned (OpenSpec.upto codeTextsSpec)

/-- 'downtiltlaw02.CodeDistance', WHERE WHAT IT READS IS OF BULK AT MOST 1048576: true; the input reads as it did. -/
def codeDistanceUptoRow : OpenClaim := { program := "ytikelkndldaejaa", sum := "9bef79036544cec9b3adfade670f44118fd25769be9e746dbef182258249f3ad", func := "downtilt/downtiltlaw02.CodeDistance", spec := "codeDistance", unfollowed := true, recurses := true, apart := false, narrowed := true }
def CodeDistanceUptoSaid : Prop := codeDistanceUptoRow.holds Try.pinned (OpenSpec.upto codeDistanceSpec)

/-- 'downtiltlaw02.CodeChecks', WHERE WHAT IT READS IS OF BULK AT MOST 1048576: true; the input reads as it did. -/
def codeChecksUptoRow : OpenClaim := { program := "ytikelkndldaejaa", sum := "9bef79036544cec9b3adfade670f44118fd25769be9e746dbef182258249f3ad", func := "downtilt/downtiltlaw02.CodeChecks", spec := "codeChecks", unfollowed := true, recurses := true, apart := false, narrowed := true }
def CodeChecksUptoSaid : Prop := codeChecksUptoRow.holds Try.pinned (OpenSpec.upto codeChecksSpec)

/-- 'downtiltlaw02.CodeCatches', WHERE WHAT IT READS IS OF BULK AT MOST 1048576: true; the input reads as it did. -/
def codeCatchesUptoRow : OpenClaim := { program := "ytikelkndldaejaa", sum := "9bef79036544cec9b3adfade670f44118fd25769be9e746dbef182258249f3ad", func := "downtilt/downtiltlaw02.CodeCatches", spec := "codeCatches", unfollowed := true, recurses := true, apart := false, narrowed := true }
def CodeCatchesUptoSaid : Prop := codeCatchesUptoRow.holds Try.pinned (OpenSpec.upto codeCatchesSpec)

/-- 'downtiltlaw02.CodeChains', WHERE WHAT IT READS IS OF BULK AT MOST 1048576: true; the input reads as it did. -/
def codeChainsUptoRow : OpenClaim := { program := "ytikelkndldaejaa", sum := "9bef79036544cec9b3adfade670f44118fd25769be9e746dbef182258249f3ad", func := "downtilt/downtiltlaw02.CodeChains", spec := "codeChains", unfollowed := true, recurses := true, apart := false, narrowed := true }
def CodeChainsUptoSaid : Prop := codeChainsUptoRow.holds Try.pinned (OpenSpec.upto codeChainsSpec)

/-- 'downtiltlaw02.CodeBuffers', WHERE WHAT IT READS IS OF BULK AT MOST 1048576: true; the input reads as it did. -/
def codeBuffersUptoRow : OpenClaim := { program := "ytikelkndldaejaa", sum := "9bef79036544cec9b3adfade670f44118fd25769be9e746dbef182258249f3ad", func := "downtilt/downtiltlaw02.CodeBuffers", spec := "codeBuffers", unfollowed := true, recurses := true, apart := false, narrowed := true }
def CodeBuffersUptoSaid : Prop := codeBuffersUptoRow.holds Try.pinned (OpenSpec.upto codeBuffersSpec)

/-- 'downtiltlaw02.CodeNeverMixed', WHERE WHAT IT READS IS OF BULK AT MOST 1048576: true; the input reads as it did. -/
def codeNeverMixedUptoRow : OpenClaim := { program := "ytikelkndldaejaa", sum := "9bef79036544cec9b3adfade670f44118fd25769be9e746dbef182258249f3ad", func := "downtilt/downtiltlaw02.CodeNeverMixed", spec := "codeNeverMixed", unfollowed := true, recurses := true, apart := false, narrowed := true }
def CodeNeverMixedUptoSaid : Prop := codeNeverMixedUptoRow.holds Try.pinned (OpenSpec.upto codeNeverMixedSpec)

/-- 'downtiltlaw02.CodeParities', WHERE WHAT IT READS IS OF BULK AT MOST 1048576: true; the input reads as it did. -/
def codeParitiesUptoRow : OpenClaim := { program := "ytikelkndldaejaa", sum := "9bef79036544cec9b3adfade670f44118fd25769be9e746dbef182258249f3ad", func := "downtilt/downtiltlaw02.CodeParities", spec := "codeParities", unfollowed := true, recurses := true, apart := false, narrowed := true }
def CodeParitiesUptoSaid : Prop := codeParitiesUptoRow.holds Try.pinned (OpenSpec.upto codeParitiesSpec)

/-- 'downtiltlaw02.CodeFlips', WHERE WHAT IT READS IS OF BULK AT MOST 1048576: true; the input reads as it did. -/
def codeFlipsUptoRow : OpenClaim := { program := "ytikelkndldaejaa", sum := "9bef79036544cec9b3adfade670f44118fd25769be9e746dbef182258249f3ad", func := "downtilt/downtiltlaw02.CodeFlips", spec := "codeFlips", unfollowed := true, recurses := true, apart := false, narrowed := true }
def CodeFlipsUptoSaid : Prop := codeFlipsUptoRow.holds Try.pinned (OpenSpec.upto codeFlipsSpec)

/-- 'downtiltlaw02.CodeSegments', WHERE WHAT IT READS IS OF BULK AT MOST 1048576: true; the input reads as it did. -/
def codeSegmentsUptoRow : OpenClaim := { program := "ytikelkndldaejaa", sum := "9bef79036544cec9b3adfade670f44118fd25769be9e746dbef182258249f3ad", func := "downtilt/downtiltlaw02.CodeSegments", spec := "codeSegments", unfollowed := true, recurses := true, apart := false, narrowed := true }
def CodeSegmentsUptoSaid : Prop := codeSegmentsUptoRow.holds Try.pinned (OpenSpec.upto codeSegmentsSpec)

/-- 'downtilttop.TopCodeRecovered', WHERE WHAT IT READS IS OF BULK AT MOST 1048576: true; the input reads as it did. -/
def topCodeRecoveredUptoRow : OpenClaim := { program := "ytikelkndldaejaa", sum := "9bef79036544cec9b3adfade670f44118fd25769be9e746dbef182258249f3ad", func := "downtilt/downtilttop.TopCodeRecovered", spec := "topCodeRecovered", unfollowed := true, recurses := true, apart := false, narrowed := true }
def TopCodeRecoveredUptoSaid : Prop := topCodeRecoveredUptoRow.holds Try.pinned (OpenSpec.upto topCodeRecoveredSpec)

/-- 'downtilttop.TopCodeSegmented', WHERE WHAT IT READS IS OF BULK AT MOST 1048576: true; the input reads as it did. -/
def topCodeSegmentedUptoRow : OpenClaim := { program := "ytikelkndldaejaa", sum := "9bef79036544cec9b3adfade670f44118fd25769be9e746dbef182258249f3ad", func := "downtilt/downtilttop.TopCodeSegmented", spec := "topCodeSegmented", unfollowed := true, recurses := true, apart := false, narrowed := true }
def TopCodeSegmentedUptoSaid : Prop := topCodeSegmentedUptoRow.holds Try.pinned (OpenSpec.upto topCodeSegmentedSpec)

end Rows
end Go.Proofs.Ytikelkndldaejaa
