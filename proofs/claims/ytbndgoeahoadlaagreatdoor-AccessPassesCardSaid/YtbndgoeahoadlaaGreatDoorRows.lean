/-
  NARROWER THAN 'FOR EVERY INPUT', by the rows' own cells (each row's printed sentence says how): AccessBegins: laid · AccessReplays: laid · AccessStates: laid · AccessApplies: laid · AccessPossible: laid · AccessPasses: laid · AccessOneIdentity: laid · AccessSums: laid · AccessSleeps: laid · AccessPages: laid · AccessQuestions: laid · AccessPaged: laid.
  DERIVED. THE GIVEN ROWS OF THIS SEAT. 12 by the template 'for every input the law returns true; each argument reads behind the call as it read before'; 0 by the template 'total and deterministic' (their statements: YtbndgoeahoadlaaGreatDoorTotals.lean).
  GIVEN WITH THE SEED: the statements are not yours to turn. If you find one false, say at which input.
  Laid BY PROGRAM, IN A SANDBOX (cutbox-rows.mjs): the forced cells as the released guide's own fill.sh prints them over the translation 559be898243ee06d… (all of the seat's roots in one cut). By AI agents, Wed Nov 11 2026. No macro, syntax, notation, axiom, sorry.
-/
import Derived.Test.YtbndgoeahoadlaaGreatDoorChecked
import GoSem.Claim
import GoSem.ClaimJoined
import GoSem.ClaimMapViews
import Derived.JoinedTies
import Derived.KernelRfl
namespace Go.Proofs.YtbndgoeahoadlaaGreatDoor
/- THE CELL 'sum', in the pinned program and in every row, IS THE sha256 OF THE DUMP (.gsa) THAT YtbndgoeahoadlaaGreatDoorProg.lean LOADS. Nothing in Lean hashes anything: it is a label: what it is worth is what the hold of that sum in a sandbox is worth. -/
noncomputable def Tryz.pinned : Pinned := { name := "ytbndgoeahoadlaagreatdoor", sum := "559be898243ee06df649891f46bd0bd995ad7e823f14ffa160d167cc334853b6", checked := Tryz.checked }
namespace Rows
def none {H : Type} : Left H := { results := [], args := [] }

/- WHAT THE LISTED PACKAGE-LEVEL VARIABLES READ AS WHEN THE CALL BEGINS. Each datum BY PROGRAM (the guide's laid-datum.mjs) off the statement by which the dump's own 'gosem.cut.vars' lays the variable. In a bare row this is a premise. The card (YtbndgoeahoadlaaGreatDoorCards.lean) ties it to the program's text. -/
def laid_math_bits_deBruijn32tab {H : Type} : DataW H := .agg [.lit (.int .u8 0), .lit (.int .u8 1), .lit (.int .u8 28), .lit (.int .u8 2), .lit (.int .u8 29), .lit (.int .u8 14), .lit (.int .u8 24), .lit (.int .u8 3), .lit (.int .u8 30), .lit (.int .u8 22), .lit (.int .u8 20), .lit (.int .u8 15), .lit (.int .u8 25), .lit (.int .u8 17), .lit (.int .u8 4), .lit (.int .u8 8), .lit (.int .u8 31), .lit (.int .u8 27), .lit (.int .u8 13), .lit (.int .u8 23), .lit (.int .u8 21), .lit (.int .u8 19), .lit (.int .u8 16), .lit (.int .u8 7), .lit (.int .u8 26), .lit (.int .u8 12), .lit (.int .u8 18), .lit (.int .u8 6), .lit (.int .u8 11), .lit (.int .u8 5), .lit (.int .u8 10), .lit (.int .u8 9)]
def laid_math_bits_deBruijn64tab {H : Type} : DataW H := .agg [.lit (.int .u8 0), .lit (.int .u8 1), .lit (.int .u8 56), .lit (.int .u8 2), .lit (.int .u8 57), .lit (.int .u8 49), .lit (.int .u8 28), .lit (.int .u8 3), .lit (.int .u8 61), .lit (.int .u8 58), .lit (.int .u8 42), .lit (.int .u8 50), .lit (.int .u8 38), .lit (.int .u8 29), .lit (.int .u8 17), .lit (.int .u8 4), .lit (.int .u8 62), .lit (.int .u8 47), .lit (.int .u8 59), .lit (.int .u8 36), .lit (.int .u8 45), .lit (.int .u8 43), .lit (.int .u8 51), .lit (.int .u8 22), .lit (.int .u8 53), .lit (.int .u8 39), .lit (.int .u8 33), .lit (.int .u8 30), .lit (.int .u8 24), .lit (.int .u8 18), .lit (.int .u8 12), .lit (.int .u8 5), .lit (.int .u8 63), .lit (.int .u8 55), .lit (.int .u8 48), .lit (.int .u8 27), .lit (.int .u8 60), .lit (.int .u8 41), .lit (.int .u8 37), .lit (.int .u8 16), .lit (.int .u8 46), .lit (.int .u8 35), .lit (.int .u8 44), .lit (.int .u8 21), .lit (.int .u8 52), .lit (.int .u8 32), .lit (.int .u8 23), .lit (.int .u8 11), .lit (.int .u8 54), .lit (.int .u8 26), .lit (.int .u8 40), .lit (.int .u8 15), .lit (.int .u8 34), .lit (.int .u8 20), .lit (.int .u8 31), .lit (.int .u8 10), .lit (.int .u8 25), .lit (.int .u8 14), .lit (.int .u8 19), .lit (.int .u8 9), .lit (.int .u8 13), .lit (.int .u8 8), .lit (.int .u8 7), .lit (.int .u8 6)]
def laid_internal_strconv_uint64pow10 {H : Type} : DataW H := .agg [.lit (.int .u64 1), .lit (.int .u64 10), .lit (.int .u64 100), .lit (.int .u64 1000), .lit (.int .u64 10000), .lit (.int .u64 100000), .lit (.int .u64 1000000), .lit (.int .u64 10000000), .lit (.int .u64 100000000), .lit (.int .u64 1000000000), .lit (.int .u64 10000000000), .lit (.int .u64 100000000000), .lit (.int .u64 1000000000000), .lit (.int .u64 10000000000000), .lit (.int .u64 100000000000000), .lit (.int .u64 1000000000000000), .lit (.int .u64 10000000000000000), .lit (.int .u64 100000000000000000), .lit (.int .u64 1000000000000000000), .lit (.int .u64 10000000000000000000)]
def laid_downtilt_access_stages {H : Type} : DataW H := .agg [.agg [.lit (.bool false), .lit (.bool false), .lit (.bool false), .lit (.bool false)], .agg [.lit (.bool true), .lit (.bool false), .lit (.bool true), .lit (.bool true)], .agg [.lit (.bool false), .lit (.bool true), .lit (.bool true), .lit (.bool true)], .agg [.lit (.bool false), .lit (.bool false), .lit (.bool true), .lit (.bool true)], .agg [.lit (.bool false), .lit (.bool true), .lit (.bool false), .lit (.bool false)], .agg [.lit (.bool false), .lit (.bool false), .lit (.bool false), .lit (.bool true)]]

/-- 'downtiltlaw07.AccessBegins': WHATEVER THE INPUT: true; the input reads as it did. -/
def accessBeginsSpec : ChangeSpec := { name := "accessBegins", fn := fun _ => fun
  | [d1, d2] => { results := [.lit (.bool true)], args := [d1, d2] }
  | _ => none }
def accessBeginsRow : OpenClaim := { program := "ytbndgoeahoadlaagreatdoor", sum := "559be898243ee06df649891f46bd0bd995ad7e823f14ffa160d167cc334853b6", func := "downtilt/downtiltlaw07.AccessBegins", spec := "accessBegins", inPlace := ["internal/abi.NoEscape", "internal/bytealg.MakeNoZero"], unfollowed := true, recurses := true, named := ["downtilt/access.stages", "internal/strconv.uint64pow10", "math/bits.deBruijn32tab", "math/bits.deBruijn64tab"], apart := false, laid := [("math/bits.deBruijn32tab", laid_math_bits_deBruijn32tab), ("math/bits.deBruijn64tab", laid_math_bits_deBruijn64tab), ("internal/strconv.uint64pow10", laid_internal_strconv_uint64pow10), ("downtilt/access.stages", laid_downtilt_access_stages)] }
def AccessBeginsSaid : Prop := accessBeginsRow.holds Tryz.pinned (OpenSpec.ofChange accessBeginsSpec)

/-- ITS FALSE NEIGHBOUR: 'it returns false'. Refute it at one input. -/
def accessBeginsWrong : ChangeSpec := { name := "accessBegins", fn := fun _ => fun
  | [d1, d2] => { results := [.lit (.bool false)], args := [d1, d2] }
  | _ => none }
def AccessBeginsWrongFalsely : Prop := accessBeginsRow.holds Tryz.pinned (OpenSpec.ofChange accessBeginsWrong)

/-- 'downtiltlaw07.AccessReplays': WHATEVER THE INPUT: true; the input reads as it did. -/
def accessReplaysSpec : ChangeSpec := { name := "accessReplays", fn := fun _ => fun
  | [d1, d2, d3] => { results := [.lit (.bool true)], args := [d1, d2, d3] }
  | _ => none }
def accessReplaysRow : OpenClaim := { program := "ytbndgoeahoadlaagreatdoor", sum := "559be898243ee06df649891f46bd0bd995ad7e823f14ffa160d167cc334853b6", func := "downtilt/downtiltlaw07.AccessReplays", spec := "accessReplays", inPlace := ["internal/abi.NoEscape", "internal/bytealg.MakeNoZero"], unfollowed := true, recurses := true, named := ["downtilt/access.stages", "internal/strconv.uint64pow10", "math/bits.deBruijn32tab", "math/bits.deBruijn64tab"], apart := false, laid := [("math/bits.deBruijn32tab", laid_math_bits_deBruijn32tab), ("math/bits.deBruijn64tab", laid_math_bits_deBruijn64tab), ("internal/strconv.uint64pow10", laid_internal_strconv_uint64pow10), ("downtilt/access.stages", laid_downtilt_access_stages)] }
def AccessReplaysSaid : Prop := accessReplaysRow.holds Tryz.pinned (OpenSpec.ofChange accessReplaysSpec)

/-- ITS FALSE NEIGHBOUR: 'it returns false'. Refute it at one input. -/
def accessReplaysWrong : ChangeSpec := { name := "accessReplays", fn := fun _ => fun
  | [d1, d2, d3] => { results := [.lit (.bool false)], args := [d1, d2, d3] }
  | _ => none }
def AccessReplaysWrongFalsely : Prop := accessReplaysRow.holds Tryz.pinned (OpenSpec.ofChange accessReplaysWrong)

/-- 'downtiltlaw07.AccessStates': WHATEVER THE INPUT: true; the input reads as it did. -/
def accessStatesSpec : ChangeSpec := { name := "accessStates", fn := fun _ => fun
  | [d1, d2, d3] => { results := [.lit (.bool true)], args := [d1, d2, d3] }
  | _ => none }
def accessStatesRow : OpenClaim := { program := "ytbndgoeahoadlaagreatdoor", sum := "559be898243ee06df649891f46bd0bd995ad7e823f14ffa160d167cc334853b6", func := "downtilt/downtiltlaw07.AccessStates", spec := "accessStates", inPlace := ["internal/abi.NoEscape", "internal/bytealg.MakeNoZero"], unfollowed := true, recurses := true, named := ["downtilt/access.stages", "internal/strconv.uint64pow10", "math/bits.deBruijn32tab", "math/bits.deBruijn64tab"], apart := false, laid := [("math/bits.deBruijn32tab", laid_math_bits_deBruijn32tab), ("math/bits.deBruijn64tab", laid_math_bits_deBruijn64tab), ("internal/strconv.uint64pow10", laid_internal_strconv_uint64pow10), ("downtilt/access.stages", laid_downtilt_access_stages)] }
def AccessStatesSaid : Prop := accessStatesRow.holds Tryz.pinned (OpenSpec.ofChange accessStatesSpec)

/-- ITS FALSE NEIGHBOUR: 'it returns false'. Refute it at one input. -/
def accessStatesWrong : ChangeSpec := { name := "accessStates", fn := fun _ => fun
  | [d1, d2, d3] => { results := [.lit (.bool false)], args := [d1, d2, d3] }
  | _ => none }
def AccessStatesWrongFalsely : Prop := accessStatesRow.holds Tryz.pinned (OpenSpec.ofChange accessStatesWrong)

/-- 'downtiltlaw07.AccessApplies': WHATEVER THE INPUT: true; the input reads as it did. -/
def accessAppliesSpec : ChangeSpec := { name := "accessApplies", fn := fun _ => fun
  | [d1, d2, d3] => { results := [.lit (.bool true)], args := [d1, d2, d3] }
  | _ => none }
def accessAppliesRow : OpenClaim := { program := "ytbndgoeahoadlaagreatdoor", sum := "559be898243ee06df649891f46bd0bd995ad7e823f14ffa160d167cc334853b6", func := "downtilt/downtiltlaw07.AccessApplies", spec := "accessApplies", inPlace := ["internal/abi.NoEscape", "internal/bytealg.MakeNoZero"], unfollowed := true, recurses := true, named := ["downtilt/access.stages", "internal/strconv.uint64pow10", "math/bits.deBruijn32tab", "math/bits.deBruijn64tab"], apart := false, laid := [("math/bits.deBruijn32tab", laid_math_bits_deBruijn32tab), ("math/bits.deBruijn64tab", laid_math_bits_deBruijn64tab), ("internal/strconv.uint64pow10", laid_internal_strconv_uint64pow10), ("downtilt/access.stages", laid_downtilt_access_stages)] }
def AccessAppliesSaid : Prop := accessAppliesRow.holds Tryz.pinned (OpenSpec.ofChange accessAppliesSpec)

/-- ITS FALSE NEIGHBOUR: 'it returns false'. Refute it at one input. -/
def accessAppliesWrong : ChangeSpec := { name := "accessApplies", fn := fun _ => fun
  | [d1, d2, d3] => { results := [.lit (.bool false)], args := [d1, d2, d3] }
  | _ => none }
def AccessAppliesWrongFalsely : Prop := accessAppliesRow.holds Tryz.pinned (OpenSpec.ofChange accessAppliesWrong)

/-- 'downtiltlaw07.AccessPossible': WHATEVER THE INPUT: true; the input reads as it did. -/
def accessPossibleSpec : ChangeSpec := { name := "accessPossible", fn := fun _ => fun
  | [d1, d2, d3] => { results := [.lit (.bool true)], args := [d1, d2, d3] }
  | _ => none }
def accessPossibleRow : OpenClaim := { program := "ytbndgoeahoadlaagreatdoor", sum := "559be898243ee06df649891f46bd0bd995ad7e823f14ffa160d167cc334853b6", func := "downtilt/downtiltlaw07.AccessPossible", spec := "accessPossible", inPlace := ["internal/abi.NoEscape", "internal/bytealg.MakeNoZero"], unfollowed := true, recurses := true, named := ["downtilt/access.stages", "internal/strconv.uint64pow10", "math/bits.deBruijn32tab", "math/bits.deBruijn64tab"], apart := false, laid := [("math/bits.deBruijn32tab", laid_math_bits_deBruijn32tab), ("math/bits.deBruijn64tab", laid_math_bits_deBruijn64tab), ("internal/strconv.uint64pow10", laid_internal_strconv_uint64pow10), ("downtilt/access.stages", laid_downtilt_access_stages)] }
def AccessPossibleSaid : Prop := accessPossibleRow.holds Tryz.pinned (OpenSpec.ofChange accessPossibleSpec)

/-- ITS FALSE NEIGHBOUR: 'it returns false'. Refute it at one input. -/
def accessPossibleWrong : ChangeSpec := { name := "accessPossible", fn := fun _ => fun
  | [d1, d2, d3] => { results := [.lit (.bool false)], args := [d1, d2, d3] }
  | _ => none }
def AccessPossibleWrongFalsely : Prop := accessPossibleRow.holds Tryz.pinned (OpenSpec.ofChange accessPossibleWrong)

/-- 'downtiltlaw07.AccessPasses': WHATEVER THE INPUT: true; the input reads as it did. -/
def accessPassesSpec : ChangeSpec := { name := "accessPasses", fn := fun _ => fun
  | [d1, d2, d3] => { results := [.lit (.bool true)], args := [d1, d2, d3] }
  | _ => none }
def accessPassesRow : OpenClaim := { program := "ytbndgoeahoadlaagreatdoor", sum := "559be898243ee06df649891f46bd0bd995ad7e823f14ffa160d167cc334853b6", func := "downtilt/downtiltlaw07.AccessPasses", spec := "accessPasses", inPlace := ["internal/abi.NoEscape", "internal/bytealg.MakeNoZero"], unfollowed := true, recurses := true, named := ["downtilt/access.stages", "internal/strconv.uint64pow10", "math/bits.deBruijn32tab", "math/bits.deBruijn64tab"], apart := false, laid := [("math/bits.deBruijn32tab", laid_math_bits_deBruijn32tab), ("math/bits.deBruijn64tab", laid_math_bits_deBruijn64tab), ("internal/strconv.uint64pow10", laid_internal_strconv_uint64pow10), ("downtilt/access.stages", laid_downtilt_access_stages)] }
def AccessPassesSaid : Prop := accessPassesRow.holds Tryz.pinned (OpenSpec.ofChange accessPassesSpec)

/-- ITS FALSE NEIGHBOUR: 'it returns false'. Refute it at one input. -/
def accessPassesWrong : ChangeSpec := { name := "accessPasses", fn := fun _ => fun
  | [d1, d2, d3] => { results := [.lit (.bool false)], args := [d1, d2, d3] }
  | _ => none }
def AccessPassesWrongFalsely : Prop := accessPassesRow.holds Tryz.pinned (OpenSpec.ofChange accessPassesWrong)

/-- 'downtiltlaw07.AccessOneIdentity': WHATEVER THE INPUT: true; the input reads as it did. -/
def accessOneIdentitySpec : ChangeSpec := { name := "accessOneIdentity", fn := fun _ => fun
  | [d1, d2, d3] => { results := [.lit (.bool true)], args := [d1, d2, d3] }
  | _ => none }
def accessOneIdentityRow : OpenClaim := { program := "ytbndgoeahoadlaagreatdoor", sum := "559be898243ee06df649891f46bd0bd995ad7e823f14ffa160d167cc334853b6", func := "downtilt/downtiltlaw07.AccessOneIdentity", spec := "accessOneIdentity", inPlace := ["internal/abi.NoEscape", "internal/bytealg.MakeNoZero"], unfollowed := true, recurses := true, named := ["downtilt/access.stages", "internal/strconv.uint64pow10", "math/bits.deBruijn32tab", "math/bits.deBruijn64tab"], apart := false, laid := [("math/bits.deBruijn32tab", laid_math_bits_deBruijn32tab), ("math/bits.deBruijn64tab", laid_math_bits_deBruijn64tab), ("internal/strconv.uint64pow10", laid_internal_strconv_uint64pow10), ("downtilt/access.stages", laid_downtilt_access_stages)] }
def AccessOneIdentitySaid : Prop := accessOneIdentityRow.holds Tryz.pinned (OpenSpec.ofChange accessOneIdentitySpec)

/-- ITS FALSE NEIGHBOUR: 'it returns false'. Refute it at one input. -/
def accessOneIdentityWrong : ChangeSpec := { name := "accessOneIdentity", fn := fun _ => fun
  | [d1, d2, d3] => { results := [.lit (.bool false)], args := [d1, d2, d3] }
  | _ => none }
def AccessOneIdentityWrongFalsely : Prop := accessOneIdentityRow.holds Tryz.pinned (OpenSpec.ofChange accessOneIdentityWrong)

/-- 'downtiltlaw07.AccessSums': WHATEVER THE INPUT: true; the input reads as it did. -/
def accessSumsSpec : ChangeSpec := { name := "accessSums", fn := fun _ => fun
  | [d1, d2, d3] => { results := [.lit (.bool true)], args := [d1, d2, d3] }
  | _ => none }
def accessSumsRow : OpenClaim := { program := "ytbndgoeahoadlaagreatdoor", sum := "559be898243ee06df649891f46bd0bd995ad7e823f14ffa160d167cc334853b6", func := "downtilt/downtiltlaw07.AccessSums", spec := "accessSums", inPlace := ["internal/abi.NoEscape", "internal/bytealg.MakeNoZero"], unfollowed := true, recurses := true, named := ["downtilt/access.stages", "internal/strconv.uint64pow10", "math/bits.deBruijn32tab", "math/bits.deBruijn64tab"], apart := false, laid := [("math/bits.deBruijn32tab", laid_math_bits_deBruijn32tab), ("math/bits.deBruijn64tab", laid_math_bits_deBruijn64tab), ("internal/strconv.uint64pow10", laid_internal_strconv_uint64pow10), ("downtilt/access.stages", laid_downtilt_access_stages)] }
def AccessSumsSaid : Prop := accessSumsRow.holds Tryz.pinned (OpenSpec.ofChange accessSumsSpec)

/-- ITS FALSE NEIGHBOUR: 'it returns false'. Refute it at one input. -/
def accessSumsWrong : ChangeSpec := { name := "accessSums", fn := fun _ => fun
  | [d1, d2, d3] => { results := [.lit (.bool false)], args := [d1, d2, d3] }
  | _ => none }
def AccessSumsWrongFalsely : Prop := accessSumsRow.holds Tryz.pinned (OpenSpec.ofChange accessSumsWrong)

/-- 'downtiltlaw07.AccessSleeps': WHATEVER THE INPUT: true; the input reads as it did. -/
def accessSleepsSpec : ChangeSpec := { name := "accessSleeps", fn := fun _ => fun
  | [d1, d2] => { results := [.lit (.bool true)], args := [d1, d2] }
  | _ => none }
def accessSleepsRow : OpenClaim := { program := "ytbndgoeahoadlaagreatdoor", sum := "559be898243ee06df649891f46bd0bd995ad7e823f14ffa160d167cc334853b6", func := "downtilt/downtiltlaw07.AccessSleeps", spec := "accessSleeps", inPlace := ["internal/abi.NoEscape", "internal/bytealg.MakeNoZero"], unfollowed := true, recurses := true, named := ["downtilt/access.stages", "internal/strconv.uint64pow10", "math/bits.deBruijn32tab", "math/bits.deBruijn64tab"], apart := false, laid := [("math/bits.deBruijn32tab", laid_math_bits_deBruijn32tab), ("math/bits.deBruijn64tab", laid_math_bits_deBruijn64tab), ("internal/strconv.uint64pow10", laid_internal_strconv_uint64pow10), ("downtilt/access.stages", laid_downtilt_access_stages)] }
def AccessSleepsSaid : Prop := accessSleepsRow.holds Tryz.pinned (OpenSpec.ofChange accessSleepsSpec)

/-- ITS FALSE NEIGHBOUR: 'it returns false'. Refute it at one input. -/
def accessSleepsWrong : ChangeSpec := { name := "accessSleeps", fn := fun _ => fun
  | [d1, d2] => { results := [.lit (.bool false)], args := [d1, d2] }
  | _ => none }
def AccessSleepsWrongFalsely : Prop := accessSleepsRow.holds Tryz.pinned (OpenSpec.ofChange accessSleepsWrong)

/-- 'downtiltlaw07.AccessPages': WHATEVER THE INPUT: true; the input reads as it did. -/
def accessPagesSpec : ChangeSpec := { name := "accessPages", fn := fun _ => fun
  | [d1, d2, d3] => { results := [.lit (.bool true)], args := [d1, d2, d3] }
  | _ => none }
def accessPagesRow : OpenClaim := { program := "ytbndgoeahoadlaagreatdoor", sum := "559be898243ee06df649891f46bd0bd995ad7e823f14ffa160d167cc334853b6", func := "downtilt/downtiltlaw07.AccessPages", spec := "accessPages", inPlace := ["internal/abi.NoEscape", "internal/bytealg.MakeNoZero"], unfollowed := true, recurses := true, named := ["downtilt/access.stages", "internal/strconv.uint64pow10", "math/bits.deBruijn32tab", "math/bits.deBruijn64tab"], apart := false, laid := [("math/bits.deBruijn32tab", laid_math_bits_deBruijn32tab), ("math/bits.deBruijn64tab", laid_math_bits_deBruijn64tab), ("internal/strconv.uint64pow10", laid_internal_strconv_uint64pow10), ("downtilt/access.stages", laid_downtilt_access_stages)] }
def AccessPagesSaid : Prop := accessPagesRow.holds Tryz.pinned (OpenSpec.ofChange accessPagesSpec)

/-- ITS FALSE NEIGHBOUR: 'it returns false'. Refute it at one input. -/
def accessPagesWrong : ChangeSpec := { name := "accessPages", fn := fun _ => fun
  | [d1, d2, d3] => { results := [.lit (.bool false)], args := [d1, d2, d3] }
  | _ => none }
def AccessPagesWrongFalsely : Prop := accessPagesRow.holds Tryz.pinned (OpenSpec.ofChange accessPagesWrong)

/-- 'downtiltlaw07.AccessQuestions': WHATEVER THE INPUT: true; the input reads as it did. -/
def accessQuestionsSpec : ChangeSpec := { name := "accessQuestions", fn := fun _ => fun
  | [d1, d2, d3] => { results := [.lit (.bool true)], args := [d1, d2, d3] }
  | _ => none }
def accessQuestionsRow : OpenClaim := { program := "ytbndgoeahoadlaagreatdoor", sum := "559be898243ee06df649891f46bd0bd995ad7e823f14ffa160d167cc334853b6", func := "downtilt/downtiltlaw07.AccessQuestions", spec := "accessQuestions", inPlace := ["internal/abi.NoEscape", "internal/bytealg.MakeNoZero"], unfollowed := true, recurses := true, named := ["downtilt/access.stages", "internal/strconv.uint64pow10", "math/bits.deBruijn32tab", "math/bits.deBruijn64tab"], apart := false, laid := [("math/bits.deBruijn32tab", laid_math_bits_deBruijn32tab), ("math/bits.deBruijn64tab", laid_math_bits_deBruijn64tab), ("internal/strconv.uint64pow10", laid_internal_strconv_uint64pow10), ("downtilt/access.stages", laid_downtilt_access_stages)] }
def AccessQuestionsSaid : Prop := accessQuestionsRow.holds Tryz.pinned (OpenSpec.ofChange accessQuestionsSpec)

/-- ITS FALSE NEIGHBOUR: 'it returns false'. Refute it at one input. -/
def accessQuestionsWrong : ChangeSpec := { name := "accessQuestions", fn := fun _ => fun
  | [d1, d2, d3] => { results := [.lit (.bool false)], args := [d1, d2, d3] }
  | _ => none }
def AccessQuestionsWrongFalsely : Prop := accessQuestionsRow.holds Tryz.pinned (OpenSpec.ofChange accessQuestionsWrong)

/-- 'downtiltlaw07.AccessPaged': WHATEVER THE INPUT: true; the input reads as it did. -/
def accessPagedSpec : ChangeSpec := { name := "accessPaged", fn := fun _ => fun
  | [d1, d2, d3] => { results := [.lit (.bool true)], args := [d1, d2, d3] }
  | _ => none }
def accessPagedRow : OpenClaim := { program := "ytbndgoeahoadlaagreatdoor", sum := "559be898243ee06df649891f46bd0bd995ad7e823f14ffa160d167cc334853b6", func := "downtilt/downtiltlaw07.AccessPaged", spec := "accessPaged", inPlace := ["internal/abi.NoEscape", "internal/bytealg.MakeNoZero"], unfollowed := true, recurses := true, named := ["downtilt/access.stages", "internal/strconv.uint64pow10", "math/bits.deBruijn32tab", "math/bits.deBruijn64tab"], apart := false, laid := [("math/bits.deBruijn32tab", laid_math_bits_deBruijn32tab), ("math/bits.deBruijn64tab", laid_math_bits_deBruijn64tab), ("internal/strconv.uint64pow10", laid_internal_strconv_uint64pow10), ("downtilt/access.stages", laid_downtilt_access_stages)] }
def AccessPagedSaid : Prop := accessPagedRow.holds Tryz.pinned (OpenSpec.ofChange accessPagedSpec)

/-- ITS FALSE NEIGHBOUR: 'it returns false'. Refute it at one input. -/
def accessPagedWrong : ChangeSpec := { name := "accessPaged", fn := fun _ => fun
  | [d1, d2, d3] => { results := [.lit (.bool false)], args := [d1, d2, d3] }
  | _ => none }
def AccessPagedWrongFalsely : Prop := accessPagedRow.holds Tryz.pinned (OpenSpec.ofChange accessPagedWrong)

/- THE SECOND FORM. 'bulk': how many values and letters a reading holds, each counted each time it is reached (what is shared counts as often as it is met; a slice's spare places count too). A statement '..UptoSaid' is the law's where the arguments, and the package variables that the reading takes, are together of bulk at most 1048576: NARROWER than '..Said'. Prove '..Said' where nothing that the law and all that it calls make is longer than what came in: it says more and counts as full. Else prove '..UptoSaid'. A law counts once. -/
mutual
def uptoBulk {H : Type} : DataW H → Nat
  | .lit (.string bytes) => bytes.length + 1
  | .lit _ => 1
  | .nil => 1
  | .ptr d => uptoBulk d + 1
  | .slice elems spare => uptoBulkAll elems + uptoBulkAll spare + 1
  | .agg parts => uptoBulkAll parts + 1
  | .iface _ d => uptoBulk d + 1
  | .map entries => uptoBulkEntries entries + 1
  | .held _ => 1
def uptoBulkAll {H : Type} : List (DataW H) → Nat
  | [] => 0
  | d :: r => uptoBulk d + uptoBulkAll r
def uptoBulkEntries {H : Type} : List (Lit × DataW H) → Nat
  | [] => 0
  | x :: r => uptoBulkEntry x + uptoBulkEntries r
def uptoBulkEntry {H : Type} : Lit × DataW H → Nat
  | (.string bytes, d) => bytes.length + uptoBulk d + 1
  | (_, d) => uptoBulk d + 1
 end
def uptoSmall : (H : Type) → List (DataW H) → Bool := fun _ ds => decide (uptoBulkAll ds ≤ 1048576)
def OpenSpec.upto (s : _root_.Go.ChangeSpec) : _root_.Go.OpenSpec := { _root_.Go.OpenSpec.ofChange s with cond := some uptoSmall }

/-- 'downtiltlaw07.AccessBegins', WHERE WHAT IT READS IS OF BULK AT MOST 1048576: true; the input reads as it did. -/
def accessBeginsUptoRow : OpenClaim := { program := "ytbndgoeahoadlaagreatdoor", sum := "559be898243ee06df649891f46bd0bd995ad7e823f14ffa160d167cc334853b6", func := "downtilt/downtiltlaw07.AccessBegins", spec := "accessBegins", inPlace := ["internal/abi.NoEscape", "internal/bytealg.MakeNoZero"], unfollowed := true, recurses := true, named := ["downtilt/access.stages", "internal/strconv.uint64pow10", "math/bits.deBruijn32tab", "math/bits.deBruijn64tab"], apart := false, laid := [("math/bits.deBruijn32tab", laid_math_bits_deBruijn32tab), ("math/bits.deBruijn64tab", laid_math_bits_deBruijn64tab), ("internal/strconv.uint64pow10", laid_internal_strconv_uint64pow10), ("downtilt/access.stages", laid_downtilt_access_stages)], narrowed := true }
def AccessBeginsUptoSaid : Prop := accessBeginsUptoRow.holds Tryz.pinned (OpenSpec.upto accessBeginsSpec)

/-- 'downtiltlaw07.AccessReplays', WHERE WHAT IT READS IS OF BULK AT MOST 1048576: true; the input reads as it did. -/
def accessReplaysUptoRow : OpenClaim := { program := "ytbndgoeahoadlaagreatdoor", sum := "559be898243ee06df649891f46bd0bd995ad7e823f14ffa160d167cc334853b6", func := "downtilt/downtiltlaw07.AccessReplays", spec := "accessReplays", inPlace := ["internal/abi.NoEscape", "internal/bytealg.MakeNoZero"], unfollowed := true, recurses := true, named := ["downtilt/access.stages", "internal/strconv.uint64pow10", "math/bits.deBruijn32tab", "math/bits.deBruijn64tab"], apart := false, laid := [("math/bits.deBruijn32tab", laid_math_bits_deBruijn32tab), ("math/bits.deBruijn64tab", laid_math_bits_deBruijn64tab), ("internal/strconv.uint64pow10", laid_internal_strconv_uint64pow10), ("downtilt/access.stages", laid_downtilt_access_stages)], narrowed := true }
def AccessReplaysUptoSaid : Prop := accessReplaysUptoRow.holds Tryz.pinned (OpenSpec.upto accessReplaysSpec)

/-- 'downtiltlaw07.AccessStates', WHERE WHAT IT READS IS OF BULK AT MOST 1048576: true; the input reads as it did. -/
def accessStatesUptoRow : OpenClaim := { program := "ytbndgoeahoadlaagreatdoor", sum := "559be898243ee06df649891f46bd0bd995ad7e823f14ffa160d167cc334853b6", func := "downtilt/downtiltlaw07.AccessStates", spec := "accessStates", inPlace := ["internal/abi.NoEscape", "internal/bytealg.MakeNoZero"], unfollowed := true, recurses := true, named := ["downtilt/access.stages", "internal/strconv.uint64pow10", "math/bits.deBruijn32tab", "math/bits.deBruijn64tab"], apart := false, laid := [("math/bits.deBruijn32tab", laid_math_bits_deBruijn32tab), ("math/bits.deBruijn64tab", laid_math_bits_deBruijn64tab), ("internal/strconv.uint64pow10", laid_internal_strconv_uint64pow10), ("downtilt/access.stages", laid_downtilt_access_stages)], narrowed := true }
def AccessStatesUptoSaid : Prop := accessStatesUptoRow.holds Tryz.pinned (OpenSpec.upto accessStatesSpec)

/-- 'downtiltlaw07.AccessApplies', WHERE WHAT IT READS IS OF BULK AT MOST 1048576: true; the input reads as it did. -/
def accessAppliesUptoRow : OpenClaim := { program := "ytbndgoeahoadlaagreatdoor", sum := "559be898243ee06df649891f46bd0bd995ad7e823f14ffa160d167cc334853b6", func := "downtilt/downtiltlaw07.AccessApplies", spec := "accessApplies", inPlace := ["internal/abi.NoEscape", "internal/bytealg.MakeNoZero"], unfollowed := true, recurses := true, named := ["downtilt/access.stages", "internal/strconv.uint64pow10", "math/bits.deBruijn32tab", "math/bits.deBruijn64tab"], apart := false, laid := [("math/bits.deBruijn32tab", laid_math_bits_deBruijn32tab), ("math/bits.deBruijn64tab", laid_math_bits_deBruijn64tab), ("internal/strconv.uint64pow10", laid_internal_strconv_uint64pow10), ("downtilt/access.stages", laid_downtilt_access_stages)], narrowed := true }
def AccessAppliesUptoSaid : Prop := accessAppliesUptoRow.holds Tryz.pinned (OpenSpec.upto accessAppliesSpec)

/-- 'downtiltlaw07.AccessPossible', WHERE WHAT IT READS IS OF BULK AT MOST 1048576: true; the input reads as it did. -/
def accessPossibleUptoRow : OpenClaim := { program := "ytbndgoeahoadlaagreatdoor", sum := "559be898243ee06df649891f46bd0bd995ad7e823f14ffa160d167cc334853b6", func := "downtilt/downtiltlaw07.AccessPossible", spec := "accessPossible", inPlace := ["internal/abi.NoEscape", "internal/bytealg.MakeNoZero"], unfollowed := true, recurses := true, named := ["downtilt/access.stages", "internal/strconv.uint64pow10", "math/bits.deBruijn32tab", "math/bits.deBruijn64tab"], apart := false, laid := [("math/bits.deBruijn32tab", laid_math_bits_deBruijn32tab), ("math/bits.deBruijn64tab", laid_math_bits_deBruijn64tab), ("internal/strconv.uint64pow10", laid_internal_strconv_uint64pow10), ("downtilt/access.stages", laid_downtilt_access_stages)], narrowed := true }
def AccessPossibleUptoSaid : Prop := accessPossibleUptoRow.holds Tryz.pinned (OpenSpec.upto accessPossibleSpec)

/-- 'downtiltlaw07.AccessPasses', WHERE WHAT IT READS IS OF BULK AT MOST 1048576: true; the input reads as it did. -/
def accessPassesUptoRow : OpenClaim := { program := "ytbndgoeahoadlaagreatdoor", sum := "559be898243ee06df649891f46bd0bd995ad7e823f14ffa160d167cc334853b6", func := "downtilt/downtiltlaw07.AccessPasses", spec := "accessPasses", inPlace := ["internal/abi.NoEscape", "internal/bytealg.MakeNoZero"], unfollowed := true, recurses := true, named := ["downtilt/access.stages", "internal/strconv.uint64pow10", "math/bits.deBruijn32tab", "math/bits.deBruijn64tab"], apart := false, laid := [("math/bits.deBruijn32tab", laid_math_bits_deBruijn32tab), ("math/bits.deBruijn64tab", laid_math_bits_deBruijn64tab), ("internal/strconv.uint64pow10", laid_internal_strconv_uint64pow10), ("downtilt/access.stages", laid_downtilt_access_stages)], narrowed := true }
def AccessPassesUptoSaid : Prop := accessPassesUptoRow.holds Tryz.pinned (OpenSpec.upto accessPassesSpec)

/-- 'downtiltlaw07.AccessOneIdentity', WHERE WHAT IT READS IS OF BULK AT MOST 1048576: true; the input reads as it did. -/
def accessOneIdentityUptoRow : OpenClaim := { program := "ytbndgoeahoadlaagreatdoor", sum := "559be898243ee06df649891f46bd0bd995ad7e823f14ffa160d167cc334853b6", func := "downtilt/downtiltlaw07.AccessOneIdentity", spec := "accessOneIdentity", inPlace := ["internal/abi.NoEscape", "internal/bytealg.MakeNoZero"], unfollowed := true, recurses := true, named := ["downtilt/access.stages", "internal/strconv.uint64pow10", "math/bits.deBruijn32tab", "math/bits.deBruijn64tab"], apart := false, laid := [("math/bits.deBruijn32tab", laid_math_bits_deBruijn32tab), ("math/bits.deBruijn64tab", laid_math_bits_deBruijn64tab), ("internal/strconv.uint64pow10", laid_internal_strconv_uint64pow10), ("downtilt/access.stages", laid_downtilt_access_stages)], narrowed := true }
def AccessOneIdentityUptoSaid : Prop := accessOneIdentityUptoRow.holds Tryz.pinned (OpenSpec.upto accessOneIdentitySpec)

/-- 'downtiltlaw07.AccessSums', WHERE WHAT IT READS IS OF BULK AT MOST 1048576: true; the input reads as it did. -/
def accessSumsUptoRow : OpenClaim := { program := "ytbndgoeahoadlaagreatdoor", sum := "559be898243ee06df649891f46bd0bd995ad7e823f14ffa160d167cc334853b6", func := "downtilt/downtiltlaw07.AccessSums", spec := "accessSums", inPlace := ["internal/abi.NoEscape", "internal/bytealg.MakeNoZero"], unfollowed := true, recurses := true, named := ["downtilt/access.stages", "internal/strconv.uint64pow10", "math/bits.deBruijn32tab", "math/bits.deBruijn64tab"], apart := false, laid := [("math/bits.deBruijn32tab", laid_math_bits_deBruijn32tab), ("math/bits.deBruijn64tab", laid_math_bits_deBruijn64tab), ("internal/strconv.uint64pow10", laid_internal_strconv_uint64pow10), ("downtilt/access.stages", laid_downtilt_access_stages)], narrowed := true }
def AccessSumsUptoSaid : Prop := accessSumsUptoRow.holds Tryz.pinned (OpenSpec.upto accessSumsSpec)

/-- 'downtiltlaw07.AccessSleeps', WHERE WHAT IT READS IS OF BULK AT MOST 1048576: true; the input reads as it did. -/
def accessSleepsUptoRow : OpenClaim := { program := "ytbndgoeahoadlaagreatdoor", sum := "559be898243ee06df649891f46bd0bd995ad7e823f14ffa160d167cc334853b6", func := "downtilt/downtiltlaw07.AccessSleeps", spec := "accessSleeps", inPlace := ["internal/abi.NoEscape", "internal/bytealg.MakeNoZero"], unfollowed := true, recurses := true, named := ["downtilt/access.stages", "internal/strconv.uint64pow10", "math/bits.deBruijn32tab", "math/bits.deBruijn64tab"], apart := false, laid := [("math/bits.deBruijn32tab", laid_math_bits_deBruijn32tab), ("math/bits.deBruijn64tab", laid_math_bits_deBruijn64tab), ("internal/strconv.uint64pow10", laid_internal_strconv_uint64pow10), ("downtilt/access.stages", laid_downtilt_access_stages)], narrowed := true }
def AccessSleepsUptoSaid : Prop := accessSleepsUptoRow.holds Tryz.pinned (OpenSpec.upto accessSleepsSpec)

/-- 'downtiltlaw07.AccessPages', WHERE WHAT IT READS IS OF BULK AT MOST 1048576: true; the input reads as it did. -/
def accessPagesUptoRow : OpenClaim := { program := "ytbndgoeahoadlaagreatdoor", sum := "559be898243ee06df649891f46bd0bd995ad7e823f14ffa160d167cc334853b6", func := "downtilt/downtiltlaw07.AccessPages", spec := "accessPages", inPlace := ["internal/abi.NoEscape", "internal/bytealg.MakeNoZero"], unfollowed := true, recurses := true, named := ["downtilt/access.stages", "internal/strconv.uint64pow10", "math/bits.deBruijn32tab", "math/bits.deBruijn64tab"], apart := false, laid := [("math/bits.deBruijn32tab", laid_math_bits_deBruijn32tab), ("math/bits.deBruijn64tab", laid_math_bits_deBruijn64tab), ("internal/strconv.uint64pow10", laid_internal_strconv_uint64pow10), ("downtilt/access.stages", laid_downtilt_access_stages)], narrowed := true }
def AccessPagesUptoSaid : Prop := accessPagesUptoRow.holds Tryz.pinned (OpenSpec.upto accessPagesSpec)

/-- 'downtiltlaw07.AccessQuestions', WHERE WHAT IT READS IS OF BULK AT MOST 1048576: true; the input reads as it did. -/
def accessQuestionsUptoRow : OpenClaim := { program := "ytbndgoeahoadlaagreatdoor", sum := "559be898243ee06df649891f46bd0bd995ad7e823f14ffa160d167cc334853b6", func := "downtilt/downtiltlaw07.AccessQuestions", spec := "accessQuestions", inPlace := ["internal/abi.NoEscape", "internal/bytealg.MakeNoZero"], unfollowed := true, recurses := true, named := ["downtilt/access.stages", "internal/strconv.uint64pow10", "math/bits.deBruijn32tab", "math/bits.deBruijn64tab"], apart := false, laid := [("math/bits.deBruijn32tab", laid_math_bits_deBruijn32tab), ("math/bits.deBruijn64tab", laid_math_bits_deBruijn64tab), ("internal/strconv.uint64pow10", laid_internal_strconv_uint64pow10), ("downtilt/access.stages", laid_downtilt_access_stages)], narrowed := true }
def AccessQuestionsUptoSaid : Prop := accessQuestionsUptoRow.holds Tryz.pinned (OpenSpec.upto accessQuestionsSpec)

/-- 'downtiltlaw07.AccessPaged', WHERE WHAT IT READS IS OF BULK AT MOST 1048576: true; the input reads as it did. -/
def accessPagedUptoRow : OpenClaim := { program := "ytbndgoeahoadlaagreatdoor", sum := "559be898243ee06df649891f46bd0bd995ad7e823f14ffa160d167cc334853b6", func := "downtilt/downtiltlaw07.AccessPaged", spec := "accessPaged", inPlace := ["internal/abi.NoEscape", "internal/bytealg.MakeNoZero"], unfollowed := true, recurses := true, named := ["downtilt/access.stages", "internal/strconv.uint64pow10", "math/bits.deBruijn32tab", "math/bits.deBruijn64tab"], apart := false, laid := [("math/bits.deBruijn32tab", laid_math_bits_deBruijn32tab), ("math/bits.deBruijn64tab", laid_math_bits_deBruijn64tab), ("internal/strconv.uint64pow10", laid_internal_strconv_uint64pow10), ("downtilt/access.stages", laid_downtilt_access_stages)], narrowed := true }
def AccessPagedUptoSaid : Prop := accessPagedUptoRow.holds Tryz.pinned (OpenSpec.upto accessPagedSpec)

end Rows
end Go.Proofs.YtbndgoeahoadlaaGreatDoor
