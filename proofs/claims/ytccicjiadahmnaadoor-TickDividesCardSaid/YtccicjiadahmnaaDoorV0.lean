/- Contracts of functions that the statements reach, written by a program of this claim's own; no condition. -/
import Derived.Test.YtccicjiadahmnaaDoorProg
import Derived.Below
import Derived.Deep.Draws
import Derived.Deep.AppendLies
import Derived.Maps.AppendAt
import Derived.OwnWalk
import Derived.Laws.BytesArg
import Derived.Laws.MakeOwn
import Derived.Laws.OwnMore
import Derived.Deep.OwnRows
import Derived.Tactics
import Derived.Lib.ConvBytes
import Derived.Laws.Slices
import Derived.WalkKit
import Derived.KernelRfl
import Derived.RowKit3
import Derived.Deep.LoopGhost
import Derived.Deep.QuietTactic
import Derived.BigQuiet
import Derived.WideLaws
import Derived.Deep.DeepCutAuto
import Derived.Deep.CutBlock
import Derived.Deep.RegionHeld3
import Derived.Laws.Rows
import Derived.Lib.AppendStr
import Derived.ArgAppend
import Derived.Laws.IdiomCopy
import Derived.OrdersHeld
import Derived.Laws.BitsLemmas
import Derived.RowKit
import Derived.Test.YtccicjiadahmnaaDoorWWords
import Derived.Test.YtccicjiadahmnaaDoorWLast
import Derived.Test.YtccicjiadahmnaaDoorWTab
import Derived.Test.YtccicjiadahmnaaDoorWFour
import Derived.Test.YtccicjiadahmnaaDoorWQPut
import Derived.Test.YtccicjiadahmnaaDoorWApart
import Derived.Test.YtccicjiadahmnaaDoorWArr
import Derived.Test.YtccicjiadahmnaaDoorWZeros
import Derived.Test.YtccicjiadahmnaaDoorWFoot
import Derived.Test.YtccicjiadahmnaaDoorWKept
import Derived.Test.YtccicjiadahmnaaDoorWShare
import Derived.Test.YtccicjiadahmnaaDoorWN
import Derived.Test.YtccicjiadahmnaaDoorWFootNe
import Derived.Test.YtccicjiadahmnaaDoorWAt
import Derived.Test.YtccicjiadahmnaaDoorWEqStruct
import Derived.Test.YtccicjiadahmnaaDoorWRepsOne
import Derived.Test.YtccicjiadahmnaaDoorWInv
import Derived.Test.YtccicjiadahmnaaDoorWInvWords
import Derived.Test.YtccicjiadahmnaaDoorWGuard
import Derived.Test.YtccicjiadahmnaaDoorWNEv
import Derived.Test.YtccicjiadahmnaaDoorWMore
namespace Go.Proofs.YtccicjiadahmnaaDoor.V
open Go.RowKit Go.Proofs.YtccicjiadahmnaaDoorW.PrintWords Go.Proofs.YtccicjiadahmnaaDoorW.PrintLast Go.Proofs.YtccicjiadahmnaaDoorW.PrintMore
attribute [local go_sem] max2_int min2_int max_two min_two max_three min_three max_four min_four   -- for this text's walks alone
set_option linter.unusedVariables false
set_option linter.unusedSimpArgs false



def errW : Option Int → Value
 | none => .nilIface
 | some c => .iface 0 (.int .i64 c)
theorem errW_none : errW none = .nilIface := rfl
theorem errW_some (c : Int) : errW (some c) = .iface 0 (.int .i64 c) := rfl

theorem info51 : (Tryd.prog.info? 51).map (fun i => (i.zero, i.size, i.bytes)) = some (some (.int .u32 0), 1, 4) := by kernel_rfl
-- the values' own types

end Go.Proofs.YtccicjiadahmnaaDoor.V
