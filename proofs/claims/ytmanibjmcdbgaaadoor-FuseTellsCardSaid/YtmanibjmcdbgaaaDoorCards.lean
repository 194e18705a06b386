/-
  DERIVED. GIVEN WITH THE SEED: THE CARDS: each row of YtmanibjmcdbgaaaDoorRows.lean that lists a variable, with what it lists TIED to the program's text (the seventh form; the later family's looks); each row that meets fmt, with fmt's text TOLD by the authors' own Lean function (tested against real Go, not proved from fmt's source: count such statements apart). THE CARD IS WHAT COUNTS. Prove the row's statement (the work); the ties are given (YtmanibjmcdbgaaaDoorTie.lean); close each card by the builder's one call (the guide's Derived/Test/ToyasCard.lean, 'card_holds'). Laid BY PROGRAM, IN A SANDBOX (cutbox-door.mjs). By AI agents, Wed Nov 11 2026. No macro, syntax, notation, axiom, sorry.
-/
import Derived.Test.YtmanibjmcdbgaaaDoorRows
import GoSem.ClaimSeven
namespace Go.Proofs.YtmanibjmcdbgaaaDoor
namespace Rows

/-- THE TIED CARD OF 'tocsinlaw17.FuseTells'. -/
def fuseTellsCard : Claim7 := { stood := { row := fuseTellsRow, standIns := [], harness := (true, "9dbdfdb663e5c72c709218ad67ddc1b2f4b99a36c6c63bfed197bd2a6b111f3a"), looks := true }, kinds := [], alts := [], laidByText := true, laidKinds := [.data, .data, .data], laidTests := true, laidLooks := .later }
def FuseTellsCardSaid : Prop := Claim7.holds Tryd.pinned (.plain (OpenSpec.ofChange fuseTellsSpec)) fuseTellsCard

/-- THE SECOND FORM's CARD OF 'tocsinlaw17.FuseTells'. -/
def fuseTellsUptoCard : Claim7 := { stood := { row := fuseTellsUptoRow, standIns := [], harness := (true, "9dbdfdb663e5c72c709218ad67ddc1b2f4b99a36c6c63bfed197bd2a6b111f3a"), looks := true }, kinds := [], alts := [], laidByText := true, laidKinds := [.data, .data, .data], laidTests := true, laidLooks := .later }
def FuseTellsUptoCardSaid : Prop := Claim7.holds Tryd.pinned (.plain (OpenSpec.upto fuseTellsSpec)) fuseTellsUptoCard
end Rows
end Go.Proofs.YtmanibjmcdbgaaaDoor
