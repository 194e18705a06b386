/-
  No cell of these rows narrows 'for every input' (looked for: loops, veiled, ifaces, maps, wideKeys, modest, calm, conditions, laid).
  DERIVED. THE GIVEN ROWS OF THIS SEAT. 5 by the template 'for every input the law returns true; each argument reads behind the call as it read before'; 0 by the template 'total and deterministic' (their statements: YtbmldeikjfecfaaTotals.lean).
  GIVEN WITH THE SEED: the statements are not yours to turn. If you find one false, say at which input.
  Laid BY PROGRAM, IN A SANDBOX (cutbox-rows.mjs): the forced cells as the released guide's own fill.sh prints them over the translation ba07ca68b8a900bf… (all of the seat's roots in one cut). By AI agents, Wed Nov 11 2026. No macro, syntax, notation, axiom, sorry.
-/
import Derived.Test.YtbmldeikjfecfaaChecked
import GoSem.Claim
import GoSem.ClaimJoined
import GoSem.ClaimMapViews
import Derived.JoinedTies
import Derived.KernelRfl
namespace Go.Proofs.Ytbmldeikjfecfaa
/- THE CELL 'sum', in the pinned program and in every row, IS THE sha256 OF THE DUMP (.gsa) THAT YtbmldeikjfecfaaProg.lean LOADS. Nothing in Lean hashes anything: it is a label: what it is worth is what the hold of that sum in a sandbox is worth. -/
noncomputable def Try.pinned : Pinned := { name := "ytbmldeikjfecfaa", sum := "ba07ca68b8a900bf8be6a4049922a76b64d54ade55d0c5a3b12482d7e20b0dd7", checked := Try.checked }
namespace Rows
def none {H : Type} : Left H := { results := [], args := [] }

/-- 'tocsinlaw15.PlanWheres': WHATEVER THE INPUT: true; the input reads as it did. -/
def planWheresSpec : ChangeSpec := { name := "planWheres", fn := fun _ => fun
  | [d1, d2, d3] => { results := [.lit (.bool true)], args := [d1, d2, d3] }
  | _ => none }
def planWheresRow : OpenClaim := { program := "ytbmldeikjfecfaa", sum := "ba07ca68b8a900bf8be6a4049922a76b64d54ade55d0c5a3b12482d7e20b0dd7", func := "tocsin/tocsinlaw15.PlanWheres", spec := "planWheres", unfollowed := true, recurses := true, apart := false }
def PlanWheresSaid : Prop := planWheresRow.holds Try.pinned (OpenSpec.ofChange planWheresSpec)

/-- ITS FALSE NEIGHBOUR: 'it returns false'. Refute it at one input. -/
def planWheresWrong : ChangeSpec := { name := "planWheres", fn := fun _ => fun
  | [d1, d2, d3] => { results := [.lit (.bool false)], args := [d1, d2, d3] }
  | _ => none }
def PlanWheresWrongFalsely : Prop := planWheresRow.holds Try.pinned (OpenSpec.ofChange planWheresWrong)

/-- 'tocsinlaw15.PlanFrees': WHATEVER THE INPUT: true; the input reads as it did. -/
def planFreesSpec : ChangeSpec := { name := "planFrees", fn := fun _ => fun
  | [d1, d2, d3] => { results := [.lit (.bool true)], args := [d1, d2, d3] }
  | _ => none }
def planFreesRow : OpenClaim := { program := "ytbmldeikjfecfaa", sum := "ba07ca68b8a900bf8be6a4049922a76b64d54ade55d0c5a3b12482d7e20b0dd7", func := "tocsin/tocsinlaw15.PlanFrees", spec := "planFrees", unfollowed := true, recurses := true, apart := false }
def PlanFreesSaid : Prop := planFreesRow.holds Try.pinned (OpenSpec.ofChange planFreesSpec)

/-- ITS FALSE NEIGHBOUR: 'it returns false'. Refute it at one input. -/
def planFreesWrong : ChangeSpec := { name := "planFrees", fn := fun _ => fun
  | [d1, d2, d3] => { results := [.lit (.bool false)], args := [d1, d2, d3] }
  | _ => none }
def PlanFreesWrongFalsely : Prop := planFreesRow.holds Try.pinned (OpenSpec.ofChange planFreesWrong)

/-- 'tocsinlaw15.PlanWaits': WHATEVER THE INPUT: true; the input reads as it did. -/
def planWaitsSpec : ChangeSpec := { name := "planWaits", fn := fun _ => fun
  | [d1, d2, d3] => { results := [.lit (.bool true)], args := [d1, d2, d3] }
  | _ => none }
def planWaitsRow : OpenClaim := { program := "ytbmldeikjfecfaa", sum := "ba07ca68b8a900bf8be6a4049922a76b64d54ade55d0c5a3b12482d7e20b0dd7", func := "tocsin/tocsinlaw15.PlanWaits", spec := "planWaits", unfollowed := true, recurses := true, apart := false }
def PlanWaitsSaid : Prop := planWaitsRow.holds Try.pinned (OpenSpec.ofChange planWaitsSpec)

/-- ITS FALSE NEIGHBOUR: 'it returns false'. Refute it at one input. -/
def planWaitsWrong : ChangeSpec := { name := "planWaits", fn := fun _ => fun
  | [d1, d2, d3] => { results := [.lit (.bool false)], args := [d1, d2, d3] }
  | _ => none }
def PlanWaitsWrongFalsely : Prop := planWaitsRow.holds Try.pinned (OpenSpec.ofChange planWaitsWrong)

/-- 'tocsinlaw15.PlanLands': WHATEVER THE INPUT: true; the input reads as it did. -/
def planLandsSpec : ChangeSpec := { name := "planLands", fn := fun _ => fun
  | [d1, d2, d3] => { results := [.lit (.bool true)], args := [d1, d2, d3] }
  | _ => none }
def planLandsRow : OpenClaim := { program := "ytbmldeikjfecfaa", sum := "ba07ca68b8a900bf8be6a4049922a76b64d54ade55d0c5a3b12482d7e20b0dd7", func := "tocsin/tocsinlaw15.PlanLands", spec := "planLands", unfollowed := true, recurses := true, apart := false }
def PlanLandsSaid : Prop := planLandsRow.holds Try.pinned (OpenSpec.ofChange planLandsSpec)

/-- ITS FALSE NEIGHBOUR: 'it returns false'. Refute it at one input. -/
def planLandsWrong : ChangeSpec := { name := "planLands", fn := fun _ => fun
  | [d1, d2, d3] => { results := [.lit (.bool false)], args := [d1, d2, d3] }
  | _ => none }
def PlanLandsWrongFalsely : Prop := planLandsRow.holds Try.pinned (OpenSpec.ofChange planLandsWrong)

/-- 'tocsinlaw15.PlanNext': WHATEVER THE INPUT: true; the input reads as it did. -/
def planNextSpec : ChangeSpec := { name := "planNext", fn := fun _ => fun
  | [d1, d2, d3] => { results := [.lit (.bool true)], args := [d1, d2, d3] }
  | _ => none }
def planNextRow : OpenClaim := { program := "ytbmldeikjfecfaa", sum := "ba07ca68b8a900bf8be6a4049922a76b64d54ade55d0c5a3b12482d7e20b0dd7", func := "tocsin/tocsinlaw15.PlanNext", spec := "planNext", unfollowed := true, recurses := true, apart := false }
def PlanNextSaid : Prop := planNextRow.holds Try.pinned (OpenSpec.ofChange planNextSpec)

/-- ITS FALSE NEIGHBOUR: 'it returns false'. Refute it at one input. -/
def planNextWrong : ChangeSpec := { name := "planNext", fn := fun _ => fun
  | [d1, d2, d3] => { results := [.lit (.bool false)], args := [d1, d2, d3] }
  | _ => none }
def PlanNextWrongFalsely : Prop := planNextRow.holds Try.pinned (OpenSpec.ofChange planNextWrong)

/- THE SECOND FORM. 'bulk': how many values and letters a reading holds, each counted each time it is reached (what is shared counts as often as it is met; a slice's spare places count too). A statement '..UptoSaid' is the law's where the arguments, and the package variables that the reading takes, are together of bulk at most 1048576: NARROWER than '..Said'. Prove '..Said' where nothing that the law and all that it calls make is longer than what came in: it says more and counts as full. Else prove '..UptoSaid'. A law counts once. -/
mutual
def uptoBulk {H : Type} : DataW H → Nat
  | .lit (.string bytes) => bytes.length + 1
  | .lit _ => 1
  | .nil => 1
  | .ptr d => uptoBulk d + 1
  | .slice elems spare => uptoBulkAll elems + uptoBulkAll spare + 1
  | .agg parts => uptoBulkAll parts + 1
  | .iface _ d => uptoBulk d + 1
  | .map entries => uptoBulkEntries entries + 1
  | .held _ => 1
def uptoBulkAll {H : Type} : List (DataW H) → Nat
  | [] => 0
  | d :: r => uptoBulk d + uptoBulkAll r
def uptoBulkEntries {H : Type} : List (Lit × DataW H) → Nat
  | [] => 0
  | x :: r => uptoBulkEntry x + uptoBulkEntries r
def uptoBulkEntry {H : Type} : Lit × DataW H → Nat
  | (.string bytes, d) => bytes.length + uptoBulk d + 1
  | (_, d) => uptoBulk d + 1
 end
def uptoSmall : (H : Type) → List (DataW H) → Bool := fun _ ds => decide (uptoBulkAll ds ≤ 1048576)
def OpenSpec.upto (s : _root_.Go.ChangeSpec) : _root_.Go.OpenSpec := { _root_.Go.OpenSpec.ofChange s with cond := some uptoSmall }

/-- 'tocsinlaw15.PlanWheres', WHERE WHAT IT READS IS OF BULK AT MOST 1048576: true; the input reads as it did. -/
def planWheresUptoRow : OpenClaim := { program := "ytbmldeikjfecfaa", sum := "ba07ca68b8a900bf8be6a4049922a76b64d54ade55d0c5a3b12482d7e20b0dd7", func := "tocsin/tocsinlaw15.PlanWheres", spec := "planWheres", unfollowed := true, recurses := true, apart := false, narrowed := true }
def PlanWheresUptoSaid : Prop := planWheresUptoRow.holds Try.pinned (OpenSpec.upto planWheresSpec)

/-- 'tocsinlaw15.PlanFrees', WHERE WHAT IT READS IS OF BULK AT MOST 1048576: true; the input reads as it did. -/
def planFreesUptoRow : OpenClaim := { program := "ytbmldeikjfecfaa", sum := "ba07ca68b8a900bf8be6a4049922a76b64d54ade55d0c5a3b12482d7e20b0dd7", func := "tocsin/tocsinlaw15.PlanFrees", spec := "planFrees", unfollowed := true, recurses := true, apart := false, narrowed := true }
def PlanFreesUptoSaid : Prop := planFreesUptoRow.holds Try.pinned (OpenSpec.upto planFreesSpec)

/-- 'tocsinlaw15.PlanWaits', WHERE WHAT IT READS IS OF BULK AT MOST 1048576: true; the input reads as it did. -/
def planWaitsUptoRow : OpenClaim := { program := "ytbmldeikjfecfaa", sum := "ba07ca68b8a900bf8be6a4049922a76b64d54ade55d0c5a3b12482d7e20b0dd7", func := "tocsin/tocsinlaw15.PlanWaits", spec := "planWaits", unfollowed := true, recurses := true, apart := false, narrowed := true }
def PlanWaitsUptoSaid : Prop := planWaitsUptoRow.holds Try.pinned (OpenSpec.upto planWaitsSpec)

/-- 'tocsinlaw15.PlanLands', WHERE WHAT IT READS IS OF BULK AT MOST 1048576: true; the input reads as it did. -/
def planLandsUptoRow : OpenClaim := { program := "ytbmldeikjfecfaa", sum := "ba07ca68b8a900bf8be6a4049922a76b64d54ade55d0c5a3b12482d7e20b0dd7", func := "tocsin/tocsinlaw15.PlanLands", spec := "planLands", unfollowed := true, recurses := true, apart := false, narrowed := true }
def PlanLandsUptoSaid : Prop := planLandsUptoRow.holds Try.pinned (OpenSpec.upto planLandsSpec)

/-- 'tocsinlaw15.PlanNext', WHERE WHAT IT READS IS OF BULK AT MOST 1048576: true; the input reads as it did. -/
def planNextUptoRow : OpenClaim := { program := "ytbmldeikjfecfaa", sum := "ba07ca68b8a900bf8be6a4049922a76b64d54ade55d0c5a3b12482d7e20b0dd7", func := "tocsin/tocsinlaw15.PlanNext", spec := "planNext", unfollowed := true, recurses := true, apart := false, narrowed := true }
def PlanNextUptoSaid : Prop := planNextUptoRow.holds Try.pinned (OpenSpec.upto planNextSpec)

end Rows
end Go.Proofs.Ytbmldeikjfecfaa
