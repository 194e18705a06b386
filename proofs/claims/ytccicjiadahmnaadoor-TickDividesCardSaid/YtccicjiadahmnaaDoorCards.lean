/-
  DERIVED. GIVEN WITH THE SEED: THE CARDS: each row of YtccicjiadahmnaaDoorRows.lean that lists a variable, with what it lists TIED to the program's text (the seventh form; the later family's looks); each row that meets fmt, with fmt's text TOLD by the authors' own Lean function (tested against real Go, not proved from fmt's source: count such statements apart). THE CARD IS WHAT COUNTS. Prove the row's statement (the work); the ties are given (YtccicjiadahmnaaDoorTie.lean); close each card by the builder's one call (the guide's Derived/Test/ToyasCard.lean, 'card_holds'). Laid BY PROGRAM, IN A SANDBOX (cutbox-door.mjs). By AI agents, Wed Nov 11 2026. No macro, syntax, notation, axiom, sorry.
-/
import Derived.Test.YtccicjiadahmnaaDoorRows
import GoSem.ClaimSeven
namespace Go.Proofs.YtccicjiadahmnaaDoor
namespace Rows

/-- THE TIED CARD OF 'tocsinlaw02.TickAdds'. -/
def tickAddsCard : Claim7 := { stood := { row := tickAddsRow, standIns := [], harness := (true, "744056665a4373e2c2682a5b537fc2c71b72df77fbe60739240330438113e5e4"), looks := true }, kinds := [], alts := [], laidByText := true, laidKinds := [.data, .data, .data, .sentinel, .sentinel], laidTests := true, laidLooks := .later }
def TickAddsCardSaid : Prop := Claim7.holds Tryd.pinned (.plain (OpenSpec.ofChange tickAddsSpec)) tickAddsCard

/-- THE TIED CARD OF 'tocsinlaw02.TickDivides'. -/
def tickDividesCard : Claim7 := { stood := { row := tickDividesRow, standIns := [], harness := (true, "744056665a4373e2c2682a5b537fc2c71b72df77fbe60739240330438113e5e4"), looks := true }, kinds := [], alts := [], laidByText := true, laidKinds := [.data, .data, .data, .sentinel, .sentinel], laidTests := true, laidLooks := .later }
def TickDividesCardSaid : Prop := Claim7.holds Tryd.pinned (.plain (OpenSpec.ofChange tickDividesSpec)) tickDividesCard

/-- THE TIED CARD OF 'tocsinlaw02.TickSums'. -/
def tickSumsCard : Claim7 := { stood := { row := tickSumsRow, standIns := [], harness := (true, "744056665a4373e2c2682a5b537fc2c71b72df77fbe60739240330438113e5e4"), looks := true }, kinds := [], alts := [], laidByText := true, laidKinds := [.data, .data, .data, .sentinel, .sentinel], laidTests := true, laidLooks := .later }
def TickSumsCardSaid : Prop := Claim7.holds Tryd.pinned (.plain (OpenSpec.ofChange tickSumsSpec)) tickSumsCard

/-- THE TIED CARD OF 'tocsinlaw02.TickTexts'. -/
def tickTextsCard : Claim7 := { stood := { row := tickTextsRow, standIns := [], harness := (true, "744056665a4373e2c2682a5b537fc2c71b72df77fbe60739240330438113e5e4"), looks := true }, kinds := [], alts := [], laidByText := true, laidKinds := [.data, .data, .data, .sentinel, .sentinel], laidTests := true, laidLooks := .later }
def TickTextsCardSaid : Prop := Claim7.holds Tryd.pinned (.plain (OpenSpec.ofChange tickTextsSpec)) tickTextsCard

/-- THE TIED CARD OF 'tocsinlaw02.TickBacks'. -/
def tickBacksCard : Claim7 := { stood := { row := tickBacksRow, standIns := [], harness := (true, "744056665a4373e2c2682a5b537fc2c71b72df77fbe60739240330438113e5e4"), looks := true }, kinds := [], alts := [], laidByText := true, laidKinds := [.data, .data, .data, .sentinel, .sentinel], laidTests := true, laidLooks := .later }
def TickBacksCardSaid : Prop := Claim7.holds Tryd.pinned (.plain (OpenSpec.ofChange tickBacksSpec)) tickBacksCard

/-- THE TIED CARD OF 'tocsinlaw02.TickClamps'. -/
def tickClampsCard : Claim7 := { stood := { row := tickClampsRow, standIns := [], harness := (true, "744056665a4373e2c2682a5b537fc2c71b72df77fbe60739240330438113e5e4"), looks := true }, kinds := [], alts := [], laidByText := true, laidKinds := [.data, .data, .data, .sentinel, .sentinel], laidTests := true, laidLooks := .later }
def TickClampsCardSaid : Prop := Claim7.holds Tryd.pinned (.plain (OpenSpec.ofChange tickClampsSpec)) tickClampsCard

/-- THE TIED CARD OF 'tocsinlaw02.TickFloors'. -/
def tickFloorsCard : Claim7 := { stood := { row := tickFloorsRow, standIns := [], harness := (true, "744056665a4373e2c2682a5b537fc2c71b72df77fbe60739240330438113e5e4"), looks := true }, kinds := [], alts := [], laidByText := true, laidKinds := [.data, .data, .data, .sentinel, .sentinel], laidTests := true, laidLooks := .later }
def TickFloorsCardSaid : Prop := Claim7.holds Tryd.pinned (.plain (OpenSpec.ofChange tickFloorsSpec)) tickFloorsCard

/-- THE SECOND FORM's CARD OF 'tocsinlaw02.TickAdds'. -/
def tickAddsUptoCard : Claim7 := { stood := { row := tickAddsUptoRow, standIns := [], harness := (true, "744056665a4373e2c2682a5b537fc2c71b72df77fbe60739240330438113e5e4"), looks := true }, kinds := [], alts := [], laidByText := true, laidKinds := [.data, .data, .data, .sentinel, .sentinel], laidTests := true, laidLooks := .later }
def TickAddsUptoCardSaid : Prop := Claim7.holds Tryd.pinned (.plain (OpenSpec.upto tickAddsSpec)) tickAddsUptoCard

/-- THE SECOND FORM's CARD OF 'tocsinlaw02.TickDivides'. -/
def tickDividesUptoCard : Claim7 := { stood := { row := tickDividesUptoRow, standIns := [], harness := (true, "744056665a4373e2c2682a5b537fc2c71b72df77fbe60739240330438113e5e4"), looks := true }, kinds := [], alts := [], laidByText := true, laidKinds := [.data, .data, .data, .sentinel, .sentinel], laidTests := true, laidLooks := .later }
def TickDividesUptoCardSaid : Prop := Claim7.holds Tryd.pinned (.plain (OpenSpec.upto tickDividesSpec)) tickDividesUptoCard

/-- THE SECOND FORM's CARD OF 'tocsinlaw02.TickSums'. -/
def tickSumsUptoCard : Claim7 := { stood := { row := tickSumsUptoRow, standIns := [], harness := (true, "744056665a4373e2c2682a5b537fc2c71b72df77fbe60739240330438113e5e4"), looks := true }, kinds := [], alts := [], laidByText := true, laidKinds := [.data, .data, .data, .sentinel, .sentinel], laidTests := true, laidLooks := .later }
def TickSumsUptoCardSaid : Prop := Claim7.holds Tryd.pinned (.plain (OpenSpec.upto tickSumsSpec)) tickSumsUptoCard

/-- THE SECOND FORM's CARD OF 'tocsinlaw02.TickTexts'. -/
def tickTextsUptoCard : Claim7 := { stood := { row := tickTextsUptoRow, standIns := [], harness := (true, "744056665a4373e2c2682a5b537fc2c71b72df77fbe60739240330438113e5e4"), looks := true }, kinds := [], alts := [], laidByText := true, laidKinds := [.data, .data, .data, .sentinel, .sentinel], laidTests := true, laidLooks := .later }
def TickTextsUptoCardSaid : Prop := Claim7.holds Tryd.pinned (.plain (OpenSpec.upto tickTextsSpec)) tickTextsUptoCard

/-- THE SECOND FORM's CARD OF 'tocsinlaw02.TickBacks'. -/
def tickBacksUptoCard : Claim7 := { stood := { row := tickBacksUptoRow, standIns := [], harness := (true, "744056665a4373e2c2682a5b537fc2c71b72df77fbe60739240330438113e5e4"), looks := true }, kinds := [], alts := [], laidByText := true, laidKinds := [.data, .data, .data, .sentinel, .sentinel], laidTests := true, laidLooks := .later }
def TickBacksUptoCardSaid : Prop := Claim7.holds Tryd.pinned (.plain (OpenSpec.upto tickBacksSpec)) tickBacksUptoCard

/-- THE SECOND FORM's CARD OF 'tocsinlaw02.TickClamps'. -/
def tickClampsUptoCard : Claim7 := { stood := { row := tickClampsUptoRow, standIns := [], harness := (true, "744056665a4373e2c2682a5b537fc2c71b72df77fbe60739240330438113e5e4"), looks := true }, kinds := [], alts := [], laidByText := true, laidKinds := [.data, .data, .data, .sentinel, .sentinel], laidTests := true, laidLooks := .later }
def TickClampsUptoCardSaid : Prop := Claim7.holds Tryd.pinned (.plain (OpenSpec.upto tickClampsSpec)) tickClampsUptoCard

/-- THE SECOND FORM's CARD OF 'tocsinlaw02.TickFloors'. -/
def tickFloorsUptoCard : Claim7 := { stood := { row := tickFloorsUptoRow, standIns := [], harness := (true, "744056665a4373e2c2682a5b537fc2c71b72df77fbe60739240330438113e5e4"), looks := true }, kinds := [], alts := [], laidByText := true, laidKinds := [.data, .data, .data, .sentinel, .sentinel], laidTests := true, laidLooks := .later }
def TickFloorsUptoCardSaid : Prop := Claim7.holds Tryd.pinned (.plain (OpenSpec.upto tickFloorsSpec)) tickFloorsUptoCard
end Rows
end Go.Proofs.YtccicjiadahmnaaDoor
