/-
  DERIVED. GIVEN WITH THE SEED: THE CARDS: each row of YtdkdmclbhcbfeaaDoorRows.lean that lists a variable, with what it lists TIED to the program's text (the seventh form; the later family's looks); each row that meets fmt, with fmt's text TOLD by the authors' own Lean function (tested against real Go, not proved from fmt's source: count such statements apart). THE CARD IS WHAT COUNTS. Prove the row's statement (the work); the ties are given (YtdkdmclbhcbfeaaDoorTie.lean); close each card by the builder's one call (the guide's Derived/Test/ToyasCard.lean, 'card_holds'). Laid BY PROGRAM, IN A SANDBOX (cutbox-door.mjs). By AI agents, Wed Nov 11 2026. No macro, syntax, notation, axiom, sorry.
-/
import Derived.Test.YtdkdmclbhcbfeaaDoorRows
import GoSem.ClaimSeven
namespace Go.Proofs.YtdkdmclbhcbfeaaDoor
namespace Rows

/-- THE TIED CARD OF 'tocsinlaw01.NumKinds'. -/
def numKindsCard : Claim7 := { stood := { row := numKindsRow, standIns := [], harness := (true, "5b6b3eac41b4612656bc1fe45c077f81cbafb43a5254624b56b16081ea88bf48"), looks := true }, kinds := [], alts := [], laidByText := true, laidKinds := [.data, .data, .data, .sentinel, .sentinel], laidTests := true, laidLooks := .later }
def NumKindsCardSaid : Prop := Claim7.holds Tryd.pinned (.plain (OpenSpec.ofChange numKindsSpec)) numKindsCard

/-- THE TIED CARD OF 'tocsinlaw01.NumSorts'. -/
def numSortsCard : Claim7 := { stood := { row := numSortsRow, standIns := [], harness := (true, "5b6b3eac41b4612656bc1fe45c077f81cbafb43a5254624b56b16081ea88bf48"), looks := true }, kinds := [], alts := [], laidByText := true, laidKinds := [.data, .data, .data, .sentinel, .sentinel], laidTests := true, laidLooks := .later }
def NumSortsCardSaid : Prop := Claim7.holds Tryd.pinned (.plain (OpenSpec.ofChange numSortsSpec)) numSortsCard

/-- THE TIED CARD OF 'tocsinlaw01.NumSums'. -/
def numSumsCard : Claim7 := { stood := { row := numSumsRow, standIns := [], harness := (true, "5b6b3eac41b4612656bc1fe45c077f81cbafb43a5254624b56b16081ea88bf48"), looks := true }, kinds := [], alts := [], laidByText := true, laidKinds := [.data, .data, .data, .sentinel, .sentinel], laidTests := true, laidLooks := .later }
def NumSumsCardSaid : Prop := Claim7.holds Tryd.pinned (.plain (OpenSpec.ofChange numSumsSpec)) numSumsCard

/-- THE TIED CARD OF 'tocsinlaw01.NumInts'. -/
def numIntsCard : Claim7 := { stood := { row := numIntsRow, standIns := [], harness := (true, "5b6b3eac41b4612656bc1fe45c077f81cbafb43a5254624b56b16081ea88bf48"), looks := true }, kinds := [], alts := [], laidByText := true, laidKinds := [.data, .data, .data, .sentinel, .sentinel], laidTests := true, laidLooks := .later }
def NumIntsCardSaid : Prop := Claim7.holds Tryd.pinned (.plain (OpenSpec.ofChange numIntsSpec)) numIntsCard

/-- THE TIED CARD OF 'tocsinlaw01.NumTexts'. -/
def numTextsCard : Claim7 := { stood := { row := numTextsRow, standIns := [], harness := (true, "5b6b3eac41b4612656bc1fe45c077f81cbafb43a5254624b56b16081ea88bf48"), looks := true }, kinds := [], alts := [], laidByText := true, laidKinds := [.data, .data, .data, .sentinel, .sentinel], laidTests := true, laidLooks := .later }
def NumTextsCardSaid : Prop := Claim7.holds Tryd.pinned (.plain (OpenSpec.ofChange numTextsSpec)) numTextsCard

/-- THE TIED CARD OF 'tocsinlaw01.NumOrders'. -/
def numOrdersCard : Claim7 := { stood := { row := numOrdersRow, standIns := [], harness := (true, "5b6b3eac41b4612656bc1fe45c077f81cbafb43a5254624b56b16081ea88bf48"), looks := true }, kinds := [], alts := [], laidByText := true, laidKinds := [.data, .data, .data, .sentinel, .sentinel], laidTests := true, laidLooks := .later }
def NumOrdersCardSaid : Prop := Claim7.holds Tryd.pinned (.plain (OpenSpec.ofChange numOrdersSpec)) numOrdersCard

/-- THE TIED CARD OF 'tocsinlaw01.NumKeeps'. -/
def numKeepsCard : Claim7 := { stood := { row := numKeepsRow, standIns := [], harness := (true, "5b6b3eac41b4612656bc1fe45c077f81cbafb43a5254624b56b16081ea88bf48"), looks := true }, kinds := [], alts := [], laidByText := true, laidKinds := [.data, .data, .data, .sentinel, .sentinel], laidTests := true, laidLooks := .later }
def NumKeepsCardSaid : Prop := Claim7.holds Tryd.pinned (.plain (OpenSpec.ofChange numKeepsSpec)) numKeepsCard

/-- THE TIED CARD OF 'tocsinlaw01.NumSigns'. -/
def numSignsCard : Claim7 := { stood := { row := numSignsRow, standIns := [], harness := (true, "5b6b3eac41b4612656bc1fe45c077f81cbafb43a5254624b56b16081ea88bf48"), looks := true }, kinds := [], alts := [], laidByText := true, laidKinds := [.data, .data, .data, .sentinel, .sentinel], laidTests := true, laidLooks := .later }
def NumSignsCardSaid : Prop := Claim7.holds Tryd.pinned (.plain (OpenSpec.ofChange numSignsSpec)) numSignsCard

/-- THE TIED CARD OF 'tocsinlaw01.NumWholes'. -/
def numWholesCard : Claim7 := { stood := { row := numWholesRow, standIns := [], harness := (true, "5b6b3eac41b4612656bc1fe45c077f81cbafb43a5254624b56b16081ea88bf48"), looks := true }, kinds := [], alts := [], laidByText := true, laidKinds := [.data, .data, .data, .sentinel, .sentinel], laidTests := true, laidLooks := .later }
def NumWholesCardSaid : Prop := Claim7.holds Tryd.pinned (.plain (OpenSpec.ofChange numWholesSpec)) numWholesCard

/-- THE SECOND FORM's CARD OF 'tocsinlaw01.NumKinds'. -/
def numKindsUptoCard : Claim7 := { stood := { row := numKindsUptoRow, standIns := [], harness := (true, "5b6b3eac41b4612656bc1fe45c077f81cbafb43a5254624b56b16081ea88bf48"), looks := true }, kinds := [], alts := [], laidByText := true, laidKinds := [.data, .data, .data, .sentinel, .sentinel], laidTests := true, laidLooks := .later }
def NumKindsUptoCardSaid : Prop := Claim7.holds Tryd.pinned (.plain (OpenSpec.upto numKindsSpec)) numKindsUptoCard

/-- THE SECOND FORM's CARD OF 'tocsinlaw01.NumSorts'. -/
def numSortsUptoCard : Claim7 := { stood := { row := numSortsUptoRow, standIns := [], harness := (true, "5b6b3eac41b4612656bc1fe45c077f81cbafb43a5254624b56b16081ea88bf48"), looks := true }, kinds := [], alts := [], laidByText := true, laidKinds := [.data, .data, .data, .sentinel, .sentinel], laidTests := true, laidLooks := .later }
def NumSortsUptoCardSaid : Prop := Claim7.holds Tryd.pinned (.plain (OpenSpec.upto numSortsSpec)) numSortsUptoCard

/-- THE SECOND FORM's CARD OF 'tocsinlaw01.NumSums'. -/
def numSumsUptoCard : Claim7 := { stood := { row := numSumsUptoRow, standIns := [], harness := (true, "5b6b3eac41b4612656bc1fe45c077f81cbafb43a5254624b56b16081ea88bf48"), looks := true }, kinds := [], alts := [], laidByText := true, laidKinds := [.data, .data, .data, .sentinel, .sentinel], laidTests := true, laidLooks := .later }
def NumSumsUptoCardSaid : Prop := Claim7.holds Tryd.pinned (.plain (OpenSpec.upto numSumsSpec)) numSumsUptoCard

/-- THE SECOND FORM's CARD OF 'tocsinlaw01.NumInts'. -/
def numIntsUptoCard : Claim7 := { stood := { row := numIntsUptoRow, standIns := [], harness := (true, "5b6b3eac41b4612656bc1fe45c077f81cbafb43a5254624b56b16081ea88bf48"), looks := true }, kinds := [], alts := [], laidByText := true, laidKinds := [.data, .data, .data, .sentinel, .sentinel], laidTests := true, laidLooks := .later }
def NumIntsUptoCardSaid : Prop := Claim7.holds Tryd.pinned (.plain (OpenSpec.upto numIntsSpec)) numIntsUptoCard

/-- THE SECOND FORM's CARD OF 'tocsinlaw01.NumTexts'. -/
def numTextsUptoCard : Claim7 := { stood := { row := numTextsUptoRow, standIns := [], harness := (true, "5b6b3eac41b4612656bc1fe45c077f81cbafb43a5254624b56b16081ea88bf48"), looks := true }, kinds := [], alts := [], laidByText := true, laidKinds := [.data, .data, .data, .sentinel, .sentinel], laidTests := true, laidLooks := .later }
def NumTextsUptoCardSaid : Prop := Claim7.holds Tryd.pinned (.plain (OpenSpec.upto numTextsSpec)) numTextsUptoCard

/-- THE SECOND FORM's CARD OF 'tocsinlaw01.NumOrders'. -/
def numOrdersUptoCard : Claim7 := { stood := { row := numOrdersUptoRow, standIns := [], harness := (true, "5b6b3eac41b4612656bc1fe45c077f81cbafb43a5254624b56b16081ea88bf48"), looks := true }, kinds := [], alts := [], laidByText := true, laidKinds := [.data, .data, .data, .sentinel, .sentinel], laidTests := true, laidLooks := .later }
def NumOrdersUptoCardSaid : Prop := Claim7.holds Tryd.pinned (.plain (OpenSpec.upto numOrdersSpec)) numOrdersUptoCard

/-- THE SECOND FORM's CARD OF 'tocsinlaw01.NumKeeps'. -/
def numKeepsUptoCard : Claim7 := { stood := { row := numKeepsUptoRow, standIns := [], harness := (true, "5b6b3eac41b4612656bc1fe45c077f81cbafb43a5254624b56b16081ea88bf48"), looks := true }, kinds := [], alts := [], laidByText := true, laidKinds := [.data, .data, .data, .sentinel, .sentinel], laidTests := true, laidLooks := .later }
def NumKeepsUptoCardSaid : Prop := Claim7.holds Tryd.pinned (.plain (OpenSpec.upto numKeepsSpec)) numKeepsUptoCard

/-- THE SECOND FORM's CARD OF 'tocsinlaw01.NumSigns'. -/
def numSignsUptoCard : Claim7 := { stood := { row := numSignsUptoRow, standIns := [], harness := (true, "5b6b3eac41b4612656bc1fe45c077f81cbafb43a5254624b56b16081ea88bf48"), looks := true }, kinds := [], alts := [], laidByText := true, laidKinds := [.data, .data, .data, .sentinel, .sentinel], laidTests := true, laidLooks := .later }
def NumSignsUptoCardSaid : Prop := Claim7.holds Tryd.pinned (.plain (OpenSpec.upto numSignsSpec)) numSignsUptoCard

/-- THE SECOND FORM's CARD OF 'tocsinlaw01.NumWholes'. -/
def numWholesUptoCard : Claim7 := { stood := { row := numWholesUptoRow, standIns := [], harness := (true, "5b6b3eac41b4612656bc1fe45c077f81cbafb43a5254624b56b16081ea88bf48"), looks := true }, kinds := [], alts := [], laidByText := true, laidKinds := [.data, .data, .data, .sentinel, .sentinel], laidTests := true, laidLooks := .later }
def NumWholesUptoCardSaid : Prop := Claim7.holds Tryd.pinned (.plain (OpenSpec.upto numWholesSpec)) numWholesUptoCard
end Rows
end Go.Proofs.YtdkdmclbhcbfeaaDoor
