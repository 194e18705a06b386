/-
  No cell of these rows narrows 'for every input' (looked for: loops, veiled, ifaces, maps, wideKeys, modest, calm, conditions, laid).
  DERIVED. THE GIVEN ROWS OF THIS SEAT. 4 by the template 'for every input the law returns true; each argument reads behind the call as it read before'; 0 by the template 'total and deterministic' (their statements: YtmanibjmcdbgaaaTotals.lean).
  GIVEN WITH THE SEED: the statements are not yours to turn. If you find one false, say at which input.
  Laid BY PROGRAM, IN A SANDBOX (cutbox-rows.mjs): the forced cells as the released guide's own fill.sh prints them over the translation 125239d9bc3c94bb… (all of the seat's roots in one cut). By AI agents, Wed Nov 11 2026. No macro, syntax, notation, axiom, sorry.
-/
import Derived.Test.YtmanibjmcdbgaaaChecked
import GoSem.Claim
import GoSem.ClaimJoined
import GoSem.ClaimMapViews
import Derived.JoinedTies
import Derived.KernelRfl
namespace Go.Proofs.Ytmanibjmcdbgaaa
/- THE CELL 'sum', in the pinned program and in every row, IS THE sha256 OF THE DUMP (.gsa) THAT YtmanibjmcdbgaaaProg.lean LOADS. Nothing in Lean hashes anything: it is a label: what it is worth is what the hold of that sum in a sandbox is worth. -/
noncomputable def Try.pinned : Pinned := { name := "ytmanibjmcdbgaaa", sum := "125239d9bc3c94bba00535aa384605be88d5ea0a82e1e02d1e2d9d323dfed84f", checked := Try.checked }
namespace Rows
def none {H : Type} : Left H := { results := [], args := [] }

/-- 'tocsinlaw17.FusePlays': WHATEVER THE INPUT: true; the input reads as it did. -/
def fusePlaysSpec : ChangeSpec := { name := "fusePlays", fn := fun _ => fun
  | [d1, d2] => { results := [.lit (.bool true)], args := [d1, d2] }
  | _ => none }
def fusePlaysRow : OpenClaim := { program := "ytmanibjmcdbgaaa", sum := "125239d9bc3c94bba00535aa384605be88d5ea0a82e1e02d1e2d9d323dfed84f", func := "tocsin/tocsinlaw17.FusePlays", spec := "fusePlays", inPlace := ["math.Float64frombits"], unfollowed := true, recurses := true, apart := false }
def FusePlaysSaid : Prop := fusePlaysRow.holds Try.pinned (OpenSpec.ofChange fusePlaysSpec)

/-- ITS FALSE NEIGHBOUR: 'it returns false'. Refute it at one input. -/
def fusePlaysWrong : ChangeSpec := { name := "fusePlays", fn := fun _ => fun
  | [d1, d2] => { results := [.lit (.bool false)], args := [d1, d2] }
  | _ => none }
def FusePlaysWrongFalsely : Prop := fusePlaysRow.holds Try.pinned (OpenSpec.ofChange fusePlaysWrong)

/-- 'tocsinlaw17.FuseNests': WHATEVER THE INPUT: true; the input reads as it did. -/
def fuseNestsSpec : ChangeSpec := { name := "fuseNests", fn := fun _ => fun
  | [d1, d2] => { results := [.lit (.bool true)], args := [d1, d2] }
  | _ => none }
def fuseNestsRow : OpenClaim := { program := "ytmanibjmcdbgaaa", sum := "125239d9bc3c94bba00535aa384605be88d5ea0a82e1e02d1e2d9d323dfed84f", func := "tocsin/tocsinlaw17.FuseNests", spec := "fuseNests", inPlace := ["math.Float64frombits"], unfollowed := true, recurses := true, apart := false }
def FuseNestsSaid : Prop := fuseNestsRow.holds Try.pinned (OpenSpec.ofChange fuseNestsSpec)

/-- ITS FALSE NEIGHBOUR: 'it returns false'. Refute it at one input. -/
def fuseNestsWrong : ChangeSpec := { name := "fuseNests", fn := fun _ => fun
  | [d1, d2] => { results := [.lit (.bool false)], args := [d1, d2] }
  | _ => none }
def FuseNestsWrongFalsely : Prop := fuseNestsRow.holds Try.pinned (OpenSpec.ofChange fuseNestsWrong)

/-- 'tocsinlaw17.FuseBears': WHATEVER THE INPUT: true; the input reads as it did. -/
def fuseBearsSpec : ChangeSpec := { name := "fuseBears", fn := fun _ => fun
  | [d1, d2] => { results := [.lit (.bool true)], args := [d1, d2] }
  | _ => none }
def fuseBearsRow : OpenClaim := { program := "ytmanibjmcdbgaaa", sum := "125239d9bc3c94bba00535aa384605be88d5ea0a82e1e02d1e2d9d323dfed84f", func := "tocsin/tocsinlaw17.FuseBears", spec := "fuseBears", inPlace := ["math.Float64frombits"], unfollowed := true, recurses := true, apart := false }
def FuseBearsSaid : Prop := fuseBearsRow.holds Try.pinned (OpenSpec.ofChange fuseBearsSpec)

/-- ITS FALSE NEIGHBOUR: 'it returns false'. Refute it at one input. -/
def fuseBearsWrong : ChangeSpec := { name := "fuseBears", fn := fun _ => fun
  | [d1, d2] => { results := [.lit (.bool false)], args := [d1, d2] }
  | _ => none }
def FuseBearsWrongFalsely : Prop := fuseBearsRow.holds Try.pinned (OpenSpec.ofChange fuseBearsWrong)

/-- 'tocsinlaw17.FuseSafe': WHATEVER THE INPUT: true; the input reads as it did. -/
def fuseSafeSpec : ChangeSpec := { name := "fuseSafe", fn := fun _ => fun
  | [d1, d2] => { results := [.lit (.bool true)], args := [d1, d2] }
  | _ => none }
def fuseSafeRow : OpenClaim := { program := "ytmanibjmcdbgaaa", sum := "125239d9bc3c94bba00535aa384605be88d5ea0a82e1e02d1e2d9d323dfed84f", func := "tocsin/tocsinlaw17.FuseSafe", spec := "fuseSafe", inPlace := ["math.Float64frombits", "math.Float64bits"], unfollowed := true, recurses := true, apart := false }
def FuseSafeSaid : Prop := fuseSafeRow.holds Try.pinned (OpenSpec.ofChange fuseSafeSpec)

/-- ITS FALSE NEIGHBOUR: 'it returns false'. Refute it at one input. -/
def fuseSafeWrong : ChangeSpec := { name := "fuseSafe", fn := fun _ => fun
  | [d1, d2] => { results := [.lit (.bool false)], args := [d1, d2] }
  | _ => none }
def FuseSafeWrongFalsely : Prop := fuseSafeRow.holds Try.pinned (OpenSpec.ofChange fuseSafeWrong)

/- THE SECOND FORM. 'bulk': how many values and letters a reading holds, each counted each time it is reached (what is shared counts as often as it is met; a slice's spare places count too). A statement '..UptoSaid' is the law's where the arguments, and the package variables that the reading takes, are together of bulk at most 1048576: NARROWER than '..Said'. Prove '..Said' where nothing that the law and all that it calls make is longer than what came in: it says more and counts as full. Else prove '..UptoSaid'. A law counts once. -/
mutual
def uptoBulk {H : Type} : DataW H → Nat
  | .lit (.string bytes) => bytes.length + 1
  | .lit _ => 1
  | .nil => 1
  | .ptr d => uptoBulk d + 1
  | .slice elems spare => uptoBulkAll elems + uptoBulkAll spare + 1
  | .agg parts => uptoBulkAll parts + 1
  | .iface _ d => uptoBulk d + 1
  | .map entries => uptoBulkEntries entries + 1
  | .held _ => 1
def uptoBulkAll {H : Type} : List (DataW H) → Nat
  | [] => 0
  | d :: r => uptoBulk d + uptoBulkAll r
def uptoBulkEntries {H : Type} : List (Lit × DataW H) → Nat
  | [] => 0
  | x :: r => uptoBulkEntry x + uptoBulkEntries r
def uptoBulkEntry {H : Type} : Lit × DataW H → Nat
  | (.string bytes, d) => bytes.length + uptoBulk d + 1
  | (_, d) => uptoBulk d + 1
 end
def uptoSmall : (H : Type) → List (DataW H) → Bool := fun _ ds => decide (uptoBulkAll ds ≤ 1048576)
def OpenSpec.upto (s : _root_.Go.ChangeSpec) : _root_.Go.OpenSpec := { _root_.Go.OpenSpec.ofChange s with cond := some uptoSmall }

/-- 'tocsinlaw17.FusePlays', WHERE WHAT IT READS IS OF BULK AT MOST 1048576: true; the input reads as it did. -/
def fusePlaysUptoRow : OpenClaim := { program := "ytmanibjmcdbgaaa", sum := "125239d9bc3c94bba00535aa384605be88d5ea0a82e1e02d1e2d9d323dfed84f", func := "tocsin/tocsinlaw17.FusePlays", spec := "fusePlays", inPlace := ["math.Float64frombits"], unfollowed := true, recurses := true, apart := false, narrowed := true }
def FusePlaysUptoSaid : Prop := fusePlaysUptoRow.holds Try.pinned (OpenSpec.upto fusePlaysSpec)

/-- 'tocsinlaw17.FuseNests', WHERE WHAT IT READS IS OF BULK AT MOST 1048576: true; the input reads as it did. -/
def fuseNestsUptoRow : OpenClaim := { program := "ytmanibjmcdbgaaa", sum := "125239d9bc3c94bba00535aa384605be88d5ea0a82e1e02d1e2d9d323dfed84f", func := "tocsin/tocsinlaw17.FuseNests", spec := "fuseNests", inPlace := ["math.Float64frombits"], unfollowed := true, recurses := true, apart := false, narrowed := true }
def FuseNestsUptoSaid : Prop := fuseNestsUptoRow.holds Try.pinned (OpenSpec.upto fuseNestsSpec)

/-- 'tocsinlaw17.FuseBears', WHERE WHAT IT READS IS OF BULK AT MOST 1048576: true; the input reads as it did. -/
def fuseBearsUptoRow : OpenClaim := { program := "ytmanibjmcdbgaaa", sum := "125239d9bc3c94bba00535aa384605be88d5ea0a82e1e02d1e2d9d323dfed84f", func := "tocsin/tocsinlaw17.FuseBears", spec := "fuseBears", inPlace := ["math.Float64frombits"], unfollowed := true, recurses := true, apart := false, narrowed := true }
def FuseBearsUptoSaid : Prop := fuseBearsUptoRow.holds Try.pinned (OpenSpec.upto fuseBearsSpec)

/-- 'tocsinlaw17.FuseSafe', WHERE WHAT IT READS IS OF BULK AT MOST 1048576: true; the input reads as it did. -/
def fuseSafeUptoRow : OpenClaim := { program := "ytmanibjmcdbgaaa", sum := "125239d9bc3c94bba00535aa384605be88d5ea0a82e1e02d1e2d9d323dfed84f", func := "tocsin/tocsinlaw17.FuseSafe", spec := "fuseSafe", inPlace := ["math.Float64frombits", "math.Float64bits"], unfollowed := true, recurses := true, apart := false, narrowed := true }
def FuseSafeUptoSaid : Prop := fuseSafeUptoRow.holds Try.pinned (OpenSpec.upto fuseSafeSpec)

end Rows
end Go.Proofs.Ytmanibjmcdbgaaa
