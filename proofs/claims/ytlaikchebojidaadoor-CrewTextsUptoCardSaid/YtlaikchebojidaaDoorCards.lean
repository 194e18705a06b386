/-
  DERIVED. GIVEN WITH THE SEED: THE CARDS: each row of YtlaikchebojidaaDoorRows.lean that lists a variable, with what it lists TIED to the program's text (the seventh form; the later family's looks); each row that meets fmt, with fmt's text TOLD by the authors' own Lean function (tested against real Go, not proved from fmt's source: count such statements apart). THE CARD IS WHAT COUNTS. Prove the row's statement (the work); the ties are given (YtlaikchebojidaaDoorTie.lean); close each card by the builder's one call (the guide's Derived/Test/ToyasCard.lean, 'card_holds'). Laid BY PROGRAM, IN A SANDBOX (cutbox-door.mjs). By AI agents, Wed Nov 11 2026. No macro, syntax, notation, axiom, sorry.
-/
import Derived.Test.YtlaikchebojidaaDoorRows
import GoSem.ClaimSeven
namespace Go.Proofs.YtlaikchebojidaaDoor
namespace Rows

/-- THE TIED CARD OF 'tocsinlaw07.CrewTells'. -/
def crewTellsCard : Claim7 := { stood := { row := crewTellsRow, standIns := [], harness := (true, "70ae21fa28502d3176271c8afe7f57c9fed04fda7bc7e0514952feb677ab9b8b"), looks := true }, kinds := [], alts := [], laidByText := true, laidKinds := [.data, .data, .data, .data, .sentinel, .sentinel, .pinned], laidTests := true, laidLooks := .later }
def CrewTellsCardSaid : Prop := Claim7.holds Tryd.pinned (.plain (OpenSpec.ofChange crewTellsSpec)) crewTellsCard

/-- THE TIED CARD OF 'tocsinlaw07.CrewMakes'. -/
def crewMakesCard : Claim7 := { stood := { row := crewMakesRow, standIns := [], harness := (true, "70ae21fa28502d3176271c8afe7f57c9fed04fda7bc7e0514952feb677ab9b8b"), looks := true }, kinds := [], alts := [], laidByText := true, laidKinds := [.data, .data, .data, .data, .sentinel, .sentinel, .pinned], laidTests := true, laidLooks := .later }
def CrewMakesCardSaid : Prop := Claim7.holds Tryd.pinned (.plain (OpenSpec.ofChange crewMakesSpec)) crewMakesCard

/-- THE TIED CARD OF 'tocsinlaw07.CrewCommons'. -/
def crewCommonsCard : Claim7 := { stood := { row := crewCommonsRow, standIns := [], harness := (true, "70ae21fa28502d3176271c8afe7f57c9fed04fda7bc7e0514952feb677ab9b8b"), looks := true }, kinds := [], alts := [], laidByText := true, laidKinds := [.data, .data, .data, .data, .sentinel, .sentinel, .pinned], laidTests := true, laidLooks := .later }
def CrewCommonsCardSaid : Prop := Claim7.holds Tryd.pinned (.plain (OpenSpec.ofChange crewCommonsSpec)) crewCommonsCard

/-- THE TIED CARD OF 'tocsinlaw07.CrewTexts'. -/
def crewTextsCard : Claim7 := { stood := { row := crewTextsRow, standIns := [], harness := (true, "70ae21fa28502d3176271c8afe7f57c9fed04fda7bc7e0514952feb677ab9b8b"), looks := true }, kinds := [], alts := [], laidByText := true, laidKinds := [.data, .data, .data, .data, .sentinel, .sentinel, .pinned], laidTests := true, laidLooks := .later }
def CrewTextsCardSaid : Prop := Claim7.holds Tryd.pinned (.plain (OpenSpec.ofChange crewTextsSpec)) crewTextsCard

/-- THE TIED CARD OF 'tocsinlaw07.CrewWithins'. -/
def crewWithinsCard : Claim7 := { stood := { row := crewWithinsRow, standIns := [], harness := (true, "70ae21fa28502d3176271c8afe7f57c9fed04fda7bc7e0514952feb677ab9b8b"), looks := true }, kinds := [], alts := [], laidByText := true, laidKinds := [.data, .data, .data, .data, .sentinel, .sentinel, .pinned], laidTests := true, laidLooks := .later }
def CrewWithinsCardSaid : Prop := Claim7.holds Tryd.pinned (.plain (OpenSpec.ofChange crewWithinsSpec)) crewWithinsCard

/-- THE TIED CARD OF 'tocsinlaw07.CrewSplits'. -/
def crewSplitsCard : Claim7 := { stood := { row := crewSplitsRow, standIns := [], harness := (true, "70ae21fa28502d3176271c8afe7f57c9fed04fda7bc7e0514952feb677ab9b8b"), looks := true }, kinds := [], alts := [], laidByText := true, laidKinds := [.data, .data, .data, .data, .sentinel, .sentinel, .pinned], laidTests := true, laidLooks := .later }
def CrewSplitsCardSaid : Prop := Claim7.holds Tryd.pinned (.plain (OpenSpec.ofChange crewSplitsSpec)) crewSplitsCard

/-- THE SECOND FORM's CARD OF 'tocsinlaw07.CrewTells'. -/
def crewTellsUptoCard : Claim7 := { stood := { row := crewTellsUptoRow, standIns := [], harness := (true, "70ae21fa28502d3176271c8afe7f57c9fed04fda7bc7e0514952feb677ab9b8b"), looks := true }, kinds := [], alts := [], laidByText := true, laidKinds := [.data, .data, .data, .data, .sentinel, .sentinel, .pinned], laidTests := true, laidLooks := .later }
def CrewTellsUptoCardSaid : Prop := Claim7.holds Tryd.pinned (.plain (OpenSpec.upto crewTellsSpec)) crewTellsUptoCard

/-- THE SECOND FORM's CARD OF 'tocsinlaw07.CrewMakes'. -/
def crewMakesUptoCard : Claim7 := { stood := { row := crewMakesUptoRow, standIns := [], harness := (true, "70ae21fa28502d3176271c8afe7f57c9fed04fda7bc7e0514952feb677ab9b8b"), looks := true }, kinds := [], alts := [], laidByText := true, laidKinds := [.data, .data, .data, .data, .sentinel, .sentinel, .pinned], laidTests := true, laidLooks := .later }
def CrewMakesUptoCardSaid : Prop := Claim7.holds Tryd.pinned (.plain (OpenSpec.upto crewMakesSpec)) crewMakesUptoCard

/-- THE SECOND FORM's CARD OF 'tocsinlaw07.CrewCommons'. -/
def crewCommonsUptoCard : Claim7 := { stood := { row := crewCommonsUptoRow, standIns := [], harness := (true, "70ae21fa28502d3176271c8afe7f57c9fed04fda7bc7e0514952feb677ab9b8b"), looks := true }, kinds := [], alts := [], laidByText := true, laidKinds := [.data, .data, .data, .data, .sentinel, .sentinel, .pinned], laidTests := true, laidLooks := .later }
def CrewCommonsUptoCardSaid : Prop := Claim7.holds Tryd.pinned (.plain (OpenSpec.upto crewCommonsSpec)) crewCommonsUptoCard

/-- THE SECOND FORM's CARD OF 'tocsinlaw07.CrewTexts'. -/
def crewTextsUptoCard : Claim7 := { stood := { row := crewTextsUptoRow, standIns := [], harness := (true, "70ae21fa28502d3176271c8afe7f57c9fed04fda7bc7e0514952feb677ab9b8b"), looks := true }, kinds := [], alts := [], laidByText := true, laidKinds := [.data, .data, .data, .data, .sentinel, .sentinel, .pinned], laidTests := true, laidLooks := .later }
def CrewTextsUptoCardSaid : Prop := Claim7.holds Tryd.pinned (.plain (OpenSpec.upto crewTextsSpec)) crewTextsUptoCard

/-- THE SECOND FORM's CARD OF 'tocsinlaw07.CrewWithins'. -/
def crewWithinsUptoCard : Claim7 := { stood := { row := crewWithinsUptoRow, standIns := [], harness := (true, "70ae21fa28502d3176271c8afe7f57c9fed04fda7bc7e0514952feb677ab9b8b"), looks := true }, kinds := [], alts := [], laidByText := true, laidKinds := [.data, .data, .data, .data, .sentinel, .sentinel, .pinned], laidTests := true, laidLooks := .later }
def CrewWithinsUptoCardSaid : Prop := Claim7.holds Tryd.pinned (.plain (OpenSpec.upto crewWithinsSpec)) crewWithinsUptoCard

/-- THE SECOND FORM's CARD OF 'tocsinlaw07.CrewSplits'. -/
def crewSplitsUptoCard : Claim7 := { stood := { row := crewSplitsUptoRow, standIns := [], harness := (true, "70ae21fa28502d3176271c8afe7f57c9fed04fda7bc7e0514952feb677ab9b8b"), looks := true }, kinds := [], alts := [], laidByText := true, laidKinds := [.data, .data, .data, .data, .sentinel, .sentinel, .pinned], laidTests := true, laidLooks := .later }
def CrewSplitsUptoCardSaid : Prop := Claim7.holds Tryd.pinned (.plain (OpenSpec.upto crewSplitsSpec)) crewSplitsUptoCard
end Rows
end Go.Proofs.YtlaikchebojidaaDoor
