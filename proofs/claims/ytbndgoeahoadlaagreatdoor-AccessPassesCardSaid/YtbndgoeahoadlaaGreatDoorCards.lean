/-
  DERIVED. GIVEN WITH THE SEED: THE CARDS: each row of YtbndgoeahoadlaaGreatDoorRows.lean that lists a variable, with what it lists TIED to the program's text (the seventh form; the later family's looks); each row that meets fmt, with fmt's text TOLD by the authors' own Lean function (tested against real Go, not proved from fmt's source: count such statements apart). THE CARD IS WHAT COUNTS. Prove the row's statement (the work); the ties are given (YtbndgoeahoadlaaGreatDoorTie.lean); close each card by the builder's one call (the guide's Derived/Test/ToyasCard.lean, 'card_holds'). Laid BY PROGRAM, IN A SANDBOX (cutbox-door.mjs). By AI agents, Wed Nov 11 2026. No macro, syntax, notation, axiom, sorry.
-/
import Derived.Test.YtbndgoeahoadlaaGreatDoorRows
import GoSem.ClaimSeven
namespace Go.Proofs.YtbndgoeahoadlaaGreatDoor
namespace Rows

/-- THE TIED CARD OF 'downtiltlaw07.AccessBegins'. -/
def accessBeginsCard : Claim7 := { stood := { row := accessBeginsRow, standIns := [], harness := (true, "bd0cbd5ba0c1f38966468fa8c690179fef97e3cb38a3253c2e60f7cdc2799cea"), looks := false }, kinds := [], alts := [], laidByText := true, laidKinds := [.data, .data, .data, .data], laidTests := true, laidLooks := .later }
def AccessBeginsCardSaid : Prop := Claim7.holds Tryz.pinned (.plain (OpenSpec.ofChange accessBeginsSpec)) accessBeginsCard

/-- THE TIED CARD OF 'downtiltlaw07.AccessReplays'. -/
def accessReplaysCard : Claim7 := { stood := { row := accessReplaysRow, standIns := [], harness := (true, "bd0cbd5ba0c1f38966468fa8c690179fef97e3cb38a3253c2e60f7cdc2799cea"), looks := false }, kinds := [], alts := [], laidByText := true, laidKinds := [.data, .data, .data, .data], laidTests := true, laidLooks := .later }
def AccessReplaysCardSaid : Prop := Claim7.holds Tryz.pinned (.plain (OpenSpec.ofChange accessReplaysSpec)) accessReplaysCard

/-- THE TIED CARD OF 'downtiltlaw07.AccessStates'. -/
def accessStatesCard : Claim7 := { stood := { row := accessStatesRow, standIns := [], harness := (true, "bd0cbd5ba0c1f38966468fa8c690179fef97e3cb38a3253c2e60f7cdc2799cea"), looks := false }, kinds := [], alts := [], laidByText := true, laidKinds := [.data, .data, .data, .data], laidTests := true, laidLooks := .later }
def AccessStatesCardSaid : Prop := Claim7.holds Tryz.pinned (.plain (OpenSpec.ofChange accessStatesSpec)) accessStatesCard

/-- THE TIED CARD OF 'downtiltlaw07.AccessApplies'. -/
def accessAppliesCard : Claim7 := { stood := { row := accessAppliesRow, standIns := [], harness := (true, "bd0cbd5ba0c1f38966468fa8c690179fef97e3cb38a3253c2e60f7cdc2799cea"), looks := false }, kinds := [], alts := [], laidByText := true, laidKinds := [.data, .data, .data, .data], laidTests := true, laidLooks := .later }
def AccessAppliesCardSaid : Prop := Claim7.holds Tryz.pinned (.plain (OpenSpec.ofChange accessAppliesSpec)) accessAppliesCard

/-- THE TIED CARD OF 'downtiltlaw07.AccessPossible'. -/
def accessPossibleCard : Claim7 := { stood := { row := accessPossibleRow, standIns := [], harness := (true, "bd0cbd5ba0c1f38966468fa8c690179fef97e3cb38a3253c2e60f7cdc2799cea"), looks := false }, kinds := [], alts := [], laidByText := true, laidKinds := [.data, .data, .data, .data], laidTests := true, laidLooks := .later }
def AccessPossibleCardSaid : Prop := Claim7.holds Tryz.pinned (.plain (OpenSpec.ofChange accessPossibleSpec)) accessPossibleCard

/-- THE TIED CARD OF 'downtiltlaw07.AccessPasses'. -/
def accessPassesCard : Claim7 := { stood := { row := accessPassesRow, standIns := [], harness := (true, "bd0cbd5ba0c1f38966468fa8c690179fef97e3cb38a3253c2e60f7cdc2799cea"), looks := false }, kinds := [], alts := [], laidByText := true, laidKinds := [.data, .data, .data, .data], laidTests := true, laidLooks := .later }
def AccessPassesCardSaid : Prop := Claim7.holds Tryz.pinned (.plain (OpenSpec.ofChange accessPassesSpec)) accessPassesCard

/-- THE TIED CARD OF 'downtiltlaw07.AccessOneIdentity'. -/
def accessOneIdentityCard : Claim7 := { stood := { row := accessOneIdentityRow, standIns := [], harness := (true, "bd0cbd5ba0c1f38966468fa8c690179fef97e3cb38a3253c2e60f7cdc2799cea"), looks := false }, kinds := [], alts := [], laidByText := true, laidKinds := [.data, .data, .data, .data], laidTests := true, laidLooks := .later }
def AccessOneIdentityCardSaid : Prop := Claim7.holds Tryz.pinned (.plain (OpenSpec.ofChange accessOneIdentitySpec)) accessOneIdentityCard

/-- THE TIED CARD OF 'downtiltlaw07.AccessSums'. -/
def accessSumsCard : Claim7 := { stood := { row := accessSumsRow, standIns := [], harness := (true, "bd0cbd5ba0c1f38966468fa8c690179fef97e3cb38a3253c2e60f7cdc2799cea"), looks := false }, kinds := [], alts := [], laidByText := true, laidKinds := [.data, .data, .data, .data], laidTests := true, laidLooks := .later }
def AccessSumsCardSaid : Prop := Claim7.holds Tryz.pinned (.plain (OpenSpec.ofChange accessSumsSpec)) accessSumsCard

/-- THE TIED CARD OF 'downtiltlaw07.AccessSleeps'. -/
def accessSleepsCard : Claim7 := { stood := { row := accessSleepsRow, standIns := [], harness := (true, "bd0cbd5ba0c1f38966468fa8c690179fef97e3cb38a3253c2e60f7cdc2799cea"), looks := false }, kinds := [], alts := [], laidByText := true, laidKinds := [.data, .data, .data, .data], laidTests := true, laidLooks := .later }
def AccessSleepsCardSaid : Prop := Claim7.holds Tryz.pinned (.plain (OpenSpec.ofChange accessSleepsSpec)) accessSleepsCard

/-- THE TIED CARD OF 'downtiltlaw07.AccessPages'. -/
def accessPagesCard : Claim7 := { stood := { row := accessPagesRow, standIns := [], harness := (true, "bd0cbd5ba0c1f38966468fa8c690179fef97e3cb38a3253c2e60f7cdc2799cea"), looks := false }, kinds := [], alts := [], laidByText := true, laidKinds := [.data, .data, .data, .data], laidTests := true, laidLooks := .later }
def AccessPagesCardSaid : Prop := Claim7.holds Tryz.pinned (.plain (OpenSpec.ofChange accessPagesSpec)) accessPagesCard

/-- THE TIED CARD OF 'downtiltlaw07.AccessQuestions'. -/
def accessQuestionsCard : Claim7 := { stood := { row := accessQuestionsRow, standIns := [], harness := (true, "bd0cbd5ba0c1f38966468fa8c690179fef97e3cb38a3253c2e60f7cdc2799cea"), looks := false }, kinds := [], alts := [], laidByText := true, laidKinds := [.data, .data, .data, .data], laidTests := true, laidLooks := .later }
def AccessQuestionsCardSaid : Prop := Claim7.holds Tryz.pinned (.plain (OpenSpec.ofChange accessQuestionsSpec)) accessQuestionsCard

/-- THE TIED CARD OF 'downtiltlaw07.AccessPaged'. -/
def accessPagedCard : Claim7 := { stood := { row := accessPagedRow, standIns := [], harness := (true, "bd0cbd5ba0c1f38966468fa8c690179fef97e3cb38a3253c2e60f7cdc2799cea"), looks := false }, kinds := [], alts := [], laidByText := true, laidKinds := [.data, .data, .data, .data], laidTests := true, laidLooks := .later }
def AccessPagedCardSaid : Prop := Claim7.holds Tryz.pinned (.plain (OpenSpec.ofChange accessPagedSpec)) accessPagedCard

/-- THE SECOND FORM's CARD OF 'downtiltlaw07.AccessBegins'. -/
def accessBeginsUptoCard : Claim7 := { stood := { row := accessBeginsUptoRow, standIns := [], harness := (true, "bd0cbd5ba0c1f38966468fa8c690179fef97e3cb38a3253c2e60f7cdc2799cea"), looks := false }, kinds := [], alts := [], laidByText := true, laidKinds := [.data, .data, .data, .data], laidTests := true, laidLooks := .later }
def AccessBeginsUptoCardSaid : Prop := Claim7.holds Tryz.pinned (.plain (OpenSpec.upto accessBeginsSpec)) accessBeginsUptoCard

/-- THE SECOND FORM's CARD OF 'downtiltlaw07.AccessReplays'. -/
def accessReplaysUptoCard : Claim7 := { stood := { row := accessReplaysUptoRow, standIns := [], harness := (true, "bd0cbd5ba0c1f38966468fa8c690179fef97e3cb38a3253c2e60f7cdc2799cea"), looks := false }, kinds := [], alts := [], laidByText := true, laidKinds := [.data, .data, .data, .data], laidTests := true, laidLooks := .later }
def AccessReplaysUptoCardSaid : Prop := Claim7.holds Tryz.pinned (.plain (OpenSpec.upto accessReplaysSpec)) accessReplaysUptoCard

/-- THE SECOND FORM's CARD OF 'downtiltlaw07.AccessStates'. -/
def accessStatesUptoCard : Claim7 := { stood := { row := accessStatesUptoRow, standIns := [], harness := (true, "bd0cbd5ba0c1f38966468fa8c690179fef97e3cb38a3253c2e60f7cdc2799cea"), looks := false }, kinds := [], alts := [], laidByText := true, laidKinds := [.data, .data, .data, .data], laidTests := true, laidLooks := .later }
def AccessStatesUptoCardSaid : Prop := Claim7.holds Tryz.pinned (.plain (OpenSpec.upto accessStatesSpec)) accessStatesUptoCard

/-- THE SECOND FORM's CARD OF 'downtiltlaw07.AccessApplies'. -/
def accessAppliesUptoCard : Claim7 := { stood := { row := accessAppliesUptoRow, standIns := [], harness := (true, "bd0cbd5ba0c1f38966468fa8c690179fef97e3cb38a3253c2e60f7cdc2799cea"), looks := false }, kinds := [], alts := [], laidByText := true, laidKinds := [.data, .data, .data, .data], laidTests := true, laidLooks := .later }
def AccessAppliesUptoCardSaid : Prop := Claim7.holds Tryz.pinned (.plain (OpenSpec.upto accessAppliesSpec)) accessAppliesUptoCard

/-- THE SECOND FORM's CARD OF 'downtiltlaw07.AccessPossible'. -/
def accessPossibleUptoCard : Claim7 := { stood := { row := accessPossibleUptoRow, standIns := [], harness := (true, "bd0cbd5ba0c1f38966468fa8c690179fef97e3cb38a3253c2e60f7cdc2799cea"), looks := false }, kinds := [], alts := [], laidByText := true, laidKinds := [.data, .data, .data, .data], laidTests := true, laidLooks := .later }
def AccessPossibleUptoCardSaid : Prop := Claim7.holds Tryz.pinned (.plain (OpenSpec.upto accessPossibleSpec)) accessPossibleUptoCard

/-- THE SECOND FORM's CARD OF 'downtiltlaw07.AccessPasses'. -/
def accessPassesUptoCard : Claim7 := { stood := { row := accessPassesUptoRow, standIns := [], harness := (true, "bd0cbd5ba0c1f38966468fa8c690179fef97e3cb38a3253c2e60f7cdc2799cea"), looks := false }, kinds := [], alts := [], laidByText := true, laidKinds := [.data, .data, .data, .data], laidTests := true, laidLooks := .later }
def AccessPassesUptoCardSaid : Prop := Claim7.holds Tryz.pinned (.plain (OpenSpec.upto accessPassesSpec)) accessPassesUptoCard

/-- THE SECOND FORM's CARD OF 'downtiltlaw07.AccessOneIdentity'. -/
def accessOneIdentityUptoCard : Claim7 := { stood := { row := accessOneIdentityUptoRow, standIns := [], harness := (true, "bd0cbd5ba0c1f38966468fa8c690179fef97e3cb38a3253c2e60f7cdc2799cea"), looks := false }, kinds := [], alts := [], laidByText := true, laidKinds := [.data, .data, .data, .data], laidTests := true, laidLooks := .later }
def AccessOneIdentityUptoCardSaid : Prop := Claim7.holds Tryz.pinned (.plain (OpenSpec.upto accessOneIdentitySpec)) accessOneIdentityUptoCard

/-- THE SECOND FORM's CARD OF 'downtiltlaw07.AccessSums'. -/
def accessSumsUptoCard : Claim7 := { stood := { row := accessSumsUptoRow, standIns := [], harness := (true, "bd0cbd5ba0c1f38966468fa8c690179fef97e3cb38a3253c2e60f7cdc2799cea"), looks := false }, kinds := [], alts := [], laidByText := true, laidKinds := [.data, .data, .data, .data], laidTests := true, laidLooks := .later }
def AccessSumsUptoCardSaid : Prop := Claim7.holds Tryz.pinned (.plain (OpenSpec.upto accessSumsSpec)) accessSumsUptoCard

/-- THE SECOND FORM's CARD OF 'downtiltlaw07.AccessSleeps'. -/
def accessSleepsUptoCard : Claim7 := { stood := { row := accessSleepsUptoRow, standIns := [], harness := (true, "bd0cbd5ba0c1f38966468fa8c690179fef97e3cb38a3253c2e60f7cdc2799cea"), looks := false }, kinds := [], alts := [], laidByText := true, laidKinds := [.data, .data, .data, .data], laidTests := true, laidLooks := .later }
def AccessSleepsUptoCardSaid : Prop := Claim7.holds Tryz.pinned (.plain (OpenSpec.upto accessSleepsSpec)) accessSleepsUptoCard

/-- THE SECOND FORM's CARD OF 'downtiltlaw07.AccessPages'. -/
def accessPagesUptoCard : Claim7 := { stood := { row := accessPagesUptoRow, standIns := [], harness := (true, "bd0cbd5ba0c1f38966468fa8c690179fef97e3cb38a3253c2e60f7cdc2799cea"), looks := false }, kinds := [], alts := [], laidByText := true, laidKinds := [.data, .data, .data, .data], laidTests := true, laidLooks := .later }
def AccessPagesUptoCardSaid : Prop := Claim7.holds Tryz.pinned (.plain (OpenSpec.upto accessPagesSpec)) accessPagesUptoCard

/-- THE SECOND FORM's CARD OF 'downtiltlaw07.AccessQuestions'. -/
def accessQuestionsUptoCard : Claim7 := { stood := { row := accessQuestionsUptoRow, standIns := [], harness := (true, "bd0cbd5ba0c1f38966468fa8c690179fef97e3cb38a3253c2e60f7cdc2799cea"), looks := false }, kinds := [], alts := [], laidByText := true, laidKinds := [.data, .data, .data, .data], laidTests := true, laidLooks := .later }
def AccessQuestionsUptoCardSaid : Prop := Claim7.holds Tryz.pinned (.plain (OpenSpec.upto accessQuestionsSpec)) accessQuestionsUptoCard

/-- THE SECOND FORM's CARD OF 'downtiltlaw07.AccessPaged'. -/
def accessPagedUptoCard : Claim7 := { stood := { row := accessPagedUptoRow, standIns := [], harness := (true, "bd0cbd5ba0c1f38966468fa8c690179fef97e3cb38a3253c2e60f7cdc2799cea"), looks := false }, kinds := [], alts := [], laidByText := true, laidKinds := [.data, .data, .data, .data], laidTests := true, laidLooks := .later }
def AccessPagedUptoCardSaid : Prop := Claim7.holds Tryz.pinned (.plain (OpenSpec.upto accessPagedSpec)) accessPagedUptoCard
end Rows
end Go.Proofs.YtbndgoeahoadlaaGreatDoor
