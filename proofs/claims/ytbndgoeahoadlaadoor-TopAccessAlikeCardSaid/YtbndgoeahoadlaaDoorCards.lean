/-
  DERIVED. GIVEN WITH THE SEED: THE CARDS: each row of YtbndgoeahoadlaaDoorRows.lean that lists a variable, with what it lists TIED to the program's text (the seventh form; the later family's looks); each row that meets fmt, with fmt's text TOLD by the authors' own Lean function (tested against real Go, not proved from fmt's source: count such statements apart). THE CARD IS WHAT COUNTS. Prove the row's statement (the work); the ties are given (YtbndgoeahoadlaaDoorTie.lean); close each card by the builder's one call (the guide's Derived/Test/ToyasCard.lean, 'card_holds'). Laid BY PROGRAM, IN A SANDBOX (cutbox-door.mjs). By AI agents, Wed Nov 11 2026. No macro, syntax, notation, axiom, sorry.
-/
import Derived.Test.YtbndgoeahoadlaaDoorRows
import GoSem.ClaimSeven
namespace Go.Proofs.YtbndgoeahoadlaaDoor
namespace Rows

/-- THE TIED CARD OF 'downtilttop.TopAccessAlike'. -/
def topAccessAlikeCard : Claim7 := { stood := { row := topAccessAlikeRow, standIns := [], harness := (true, "d724bd3fb070ac6ecfccc3ee5409538b65fd5a00043e34f4e287ccb9293aef97"), looks := false }, kinds := [], alts := [], laidByText := true, laidKinds := [.data, .data, .data], laidTests := true, laidLooks := .later }
def TopAccessAlikeCardSaid : Prop := Claim7.holds Tryd.pinned (.plain (OpenSpec.ofChange topAccessAlikeSpec)) topAccessAlikeCard

/-- THE SECOND FORM's CARD OF 'downtilttop.TopAccessAlike'. -/
def topAccessAlikeUptoCard : Claim7 := { stood := { row := topAccessAlikeUptoRow, standIns := [], harness := (true, "d724bd3fb070ac6ecfccc3ee5409538b65fd5a00043e34f4e287ccb9293aef97"), looks := false }, kinds := [], alts := [], laidByText := true, laidKinds := [.data, .data, .data], laidTests := true, laidLooks := .later }
def TopAccessAlikeUptoCardSaid : Prop := Claim7.holds Tryd.pinned (.plain (OpenSpec.upto topAccessAlikeSpec)) topAccessAlikeUptoCard
end Rows
end Go.Proofs.YtbndgoeahoadlaaDoor
