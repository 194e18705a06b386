/-
  No cell of these rows narrows 'for every input' (looked for: loops, veiled, ifaces, maps, wideKeys, modest, calm, conditions, laid).
  DERIVED. THE GIVEN ROWS OF THIS SEAT. 5 by the template 'for every input the law returns true; each argument reads behind the call as it read before'; 0 by the template 'total and deterministic' (their statements: YtpgnfjmcgfffgaaTotals.lean).
  GIVEN WITH THE SEED: the statements are not yours to turn. If you find one false, say at which input.
  Laid BY PROGRAM, IN A SANDBOX (cutbox-rows.mjs): the forced cells as the released guide's own fill.sh prints them over the translation 79678410885251f9… (all of the seat's roots in one cut). By AI agents, Wed Nov 11 2026. No macro, syntax, notation, axiom, sorry.
-/
import Derived.Test.YtpgnfjmcgfffgaaChecked
import GoSem.Claim
import GoSem.ClaimJoined
import GoSem.ClaimMapViews
import Derived.JoinedTies
import Derived.KernelRfl
namespace Go.Proofs.Ytpgnfjmcgfffgaa
/- THE CELL 'sum', in the pinned program and in every row, IS THE sha256 OF THE DUMP (.gsa) THAT YtpgnfjmcgfffgaaProg.lean LOADS. Nothing in Lean hashes anything: it is a label: what it is worth is what the hold of that sum in a sandbox is worth. -/
noncomputable def Try.pinned : Pinned := { name := "ytpgnfjmcgfffgaa", sum := "79678410885251f9ffbb0aec54175d62a8c43e0679a983f42ff559546324f42c", checked := Try.checked }
namespace Rows
def none {H : Type} : Left H := { results := [], args := [] }

/-- 'tocsinlaw09.WirePlays': WHATEVER THE INPUT: true; the input reads as it did. -/
def wirePlaysSpec : ChangeSpec := { name := "wirePlays", fn := fun _ => fun
  | [d1, d2] => { results := [.lit (.bool true)], args := [d1, d2] }
  | _ => none }
def wirePlaysRow : OpenClaim := { program := "ytpgnfjmcgfffgaa", sum := "79678410885251f9ffbb0aec54175d62a8c43e0679a983f42ff559546324f42c", func := "tocsin/tocsinlaw09.WirePlays", spec := "wirePlays", apart := false }
def WirePlaysSaid : Prop := wirePlaysRow.holds Try.pinned (OpenSpec.ofChange wirePlaysSpec)

/-- ITS FALSE NEIGHBOUR: 'it returns false'. Refute it at one input. -/
def wirePlaysWrong : ChangeSpec := { name := "wirePlays", fn := fun _ => fun
  | [d1, d2] => { results := [.lit (.bool false)], args := [d1, d2] }
  | _ => none }
def WirePlaysWrongFalsely : Prop := wirePlaysRow.holds Try.pinned (OpenSpec.ofChange wirePlaysWrong)

/-- 'tocsinlaw09.WireOrders': WHATEVER THE INPUT: true; the input reads as it did. -/
def wireOrdersSpec : ChangeSpec := { name := "wireOrders", fn := fun _ => fun
  | [d1, d2] => { results := [.lit (.bool true)], args := [d1, d2] }
  | _ => none }
def wireOrdersRow : OpenClaim := { program := "ytpgnfjmcgfffgaa", sum := "79678410885251f9ffbb0aec54175d62a8c43e0679a983f42ff559546324f42c", func := "tocsin/tocsinlaw09.WireOrders", spec := "wireOrders", apart := false }
def WireOrdersSaid : Prop := wireOrdersRow.holds Try.pinned (OpenSpec.ofChange wireOrdersSpec)

/-- ITS FALSE NEIGHBOUR: 'it returns false'. Refute it at one input. -/
def wireOrdersWrong : ChangeSpec := { name := "wireOrders", fn := fun _ => fun
  | [d1, d2] => { results := [.lit (.bool false)], args := [d1, d2] }
  | _ => none }
def WireOrdersWrongFalsely : Prop := wireOrdersRow.holds Try.pinned (OpenSpec.ofChange wireOrdersWrong)

/-- 'tocsinlaw09.WireCuts': WHATEVER THE INPUT: true; the input reads as it did. -/
def wireCutsSpec : ChangeSpec := { name := "wireCuts", fn := fun _ => fun
  | [d1, d2, d3] => { results := [.lit (.bool true)], args := [d1, d2, d3] }
  | _ => none }
def wireCutsRow : OpenClaim := { program := "ytpgnfjmcgfffgaa", sum := "79678410885251f9ffbb0aec54175d62a8c43e0679a983f42ff559546324f42c", func := "tocsin/tocsinlaw09.WireCuts", spec := "wireCuts", apart := false }
def WireCutsSaid : Prop := wireCutsRow.holds Try.pinned (OpenSpec.ofChange wireCutsSpec)

/-- ITS FALSE NEIGHBOUR: 'it returns false'. Refute it at one input. -/
def wireCutsWrong : ChangeSpec := { name := "wireCuts", fn := fun _ => fun
  | [d1, d2, d3] => { results := [.lit (.bool false)], args := [d1, d2, d3] }
  | _ => none }
def WireCutsWrongFalsely : Prop := wireCutsRow.holds Try.pinned (OpenSpec.ofChange wireCutsWrong)

/-- 'tocsinlaw09.WireClears': WHATEVER THE INPUT: true; the input reads as it did. -/
def wireClearsSpec : ChangeSpec := { name := "wireClears", fn := fun _ => fun
  | [d1, d2, d3] => { results := [.lit (.bool true)], args := [d1, d2, d3] }
  | _ => none }
def wireClearsRow : OpenClaim := { program := "ytpgnfjmcgfffgaa", sum := "79678410885251f9ffbb0aec54175d62a8c43e0679a983f42ff559546324f42c", func := "tocsin/tocsinlaw09.WireClears", spec := "wireClears", apart := false }
def WireClearsSaid : Prop := wireClearsRow.holds Try.pinned (OpenSpec.ofChange wireClearsSpec)

/-- ITS FALSE NEIGHBOUR: 'it returns false'. Refute it at one input. -/
def wireClearsWrong : ChangeSpec := { name := "wireClears", fn := fun _ => fun
  | [d1, d2, d3] => { results := [.lit (.bool false)], args := [d1, d2, d3] }
  | _ => none }
def WireClearsWrongFalsely : Prop := wireClearsRow.holds Try.pinned (OpenSpec.ofChange wireClearsWrong)

/-- 'tocsinlaw09.WireBusy': WHATEVER THE INPUT: true; the input reads as it did. -/
def wireBusySpec : ChangeSpec := { name := "wireBusy", fn := fun _ => fun
  | [d1, d2, d3] => { results := [.lit (.bool true)], args := [d1, d2, d3] }
  | _ => none }
def wireBusyRow : OpenClaim := { program := "ytpgnfjmcgfffgaa", sum := "79678410885251f9ffbb0aec54175d62a8c43e0679a983f42ff559546324f42c", func := "tocsin/tocsinlaw09.WireBusy", spec := "wireBusy", apart := false }
def WireBusySaid : Prop := wireBusyRow.holds Try.pinned (OpenSpec.ofChange wireBusySpec)

/-- ITS FALSE NEIGHBOUR: 'it returns false'. Refute it at one input. -/
def wireBusyWrong : ChangeSpec := { name := "wireBusy", fn := fun _ => fun
  | [d1, d2, d3] => { results := [.lit (.bool false)], args := [d1, d2, d3] }
  | _ => none }
def WireBusyWrongFalsely : Prop := wireBusyRow.holds Try.pinned (OpenSpec.ofChange wireBusyWrong)

/- THE SECOND FORM. 'bulk': how many values and letters a reading holds, each counted each time it is reached (what is shared counts as often as it is met; a slice's spare places count too). A statement '..UptoSaid' is the law's where the arguments, and the package variables that the reading takes, are together of bulk at most 1048576: NARROWER than '..Said'. Prove '..Said' where nothing that the law and all that it calls make is longer than what came in: it says more and counts as full. Else prove '..UptoSaid'. A law counts once. -/
mutual
def uptoBulk {H : Type} : DataW H → Nat
  | .lit (.string bytes) => bytes.length + 1
  | .lit _ => 1
  | .nil => 1
  | .ptr d => uptoBulk d + 1
  | .slice elems spare => uptoBulkAll elems + uptoBulkAll spare + 1
  | .agg parts => uptoBulkAll parts + 1
  | .iface _ d => uptoBulk d + 1
  | .map entries => uptoBulkEntries entries + 1
  | .held _ => 1
def uptoBulkAll {H : Type} : List (DataW H) → Nat
  | [] => 0
  | d :: r => uptoBulk d + uptoBulkAll r
def uptoBulkEntries {H : Type} : List (Lit × DataW H) → Nat
  | [] => 0
  | x :: r => uptoBulkEntry x + uptoBulkEntries r
def uptoBulkEntry {H : Type} : Lit × DataW H → Nat
  | (.string bytes, d) => bytes.length + uptoBulk d + 1
  | (_, d) => uptoBulk d + 1
 end
def uptoSmall : (H : Type) → List (DataW H) → Bool := fun _ ds => decide (uptoBulkAll ds ≤ 1048576)
def OpenSpec.upto (s : _root_.Go.ChangeSpec) : _root_.Go.OpenSpec := { _root_.Go.OpenSpec.ofChange s with cond := some uptoSmall }

/-- 'tocsinlaw09.WirePlays', WHERE WHAT IT READS IS OF BULK AT MOST 1048576: true; the input reads as it did. -/
def wirePlaysUptoRow : OpenClaim := { program := "ytpgnfjmcgfffgaa", sum := "79678410885251f9ffbb0aec54175d62a8c43e0679a983f42ff559546324f42c", func := "tocsin/tocsinlaw09.WirePlays", spec := "wirePlays", apart := false, narrowed := true }
def WirePlaysUptoSaid : Prop := wirePlaysUptoRow.holds Try.pinned (OpenSpec.upto wirePlaysSpec)

/-- 'tocsinlaw09.WireOrders', WHERE WHAT IT READS IS OF BULK AT MOST 1048576: true; the input reads as it did. -/
def wireOrdersUptoRow : OpenClaim := { program := "ytpgnfjmcgfffgaa", sum := "79678410885251f9ffbb0aec54175d62a8c43e0679a983f42ff559546324f42c", func := "tocsin/tocsinlaw09.WireOrders", spec := "wireOrders", apart := false, narrowed := true }
def WireOrdersUptoSaid : Prop := wireOrdersUptoRow.holds Try.pinned (OpenSpec.upto wireOrdersSpec)

/-- 'tocsinlaw09.WireCuts', WHERE WHAT IT READS IS OF BULK AT MOST 1048576: true; the input reads as it did. -/
def wireCutsUptoRow : OpenClaim := { program := "ytpgnfjmcgfffgaa", sum := "79678410885251f9ffbb0aec54175d62a8c43e0679a983f42ff559546324f42c", func := "tocsin/tocsinlaw09.WireCuts", spec := "wireCuts", apart := false, narrowed := true }
def WireCutsUptoSaid : Prop := wireCutsUptoRow.holds Try.pinned (OpenSpec.upto wireCutsSpec)

/-- 'tocsinlaw09.WireClears', WHERE WHAT IT READS IS OF BULK AT MOST 1048576: true; the input reads as it did. -/
def wireClearsUptoRow : OpenClaim := { program := "ytpgnfjmcgfffgaa", sum := "79678410885251f9ffbb0aec54175d62a8c43e0679a983f42ff559546324f42c", func := "tocsin/tocsinlaw09.WireClears", spec := "wireClears", apart := false, narrowed := true }
def WireClearsUptoSaid : Prop := wireClearsUptoRow.holds Try.pinned (OpenSpec.upto wireClearsSpec)

/-- 'tocsinlaw09.WireBusy', WHERE WHAT IT READS IS OF BULK AT MOST 1048576: true; the input reads as it did. -/
def wireBusyUptoRow : OpenClaim := { program := "ytpgnfjmcgfffgaa", sum := "79678410885251f9ffbb0aec54175d62a8c43e0679a983f42ff559546324f42c", func := "tocsin/tocsinlaw09.WireBusy", spec := "wireBusy", apart := false, narrowed := true }
def WireBusyUptoSaid : Prop := wireBusyUptoRow.holds Try.pinned (OpenSpec.upto wireBusySpec)

end Rows
end Go.Proofs.Ytpgnfjmcgfffgaa
