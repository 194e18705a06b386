/- A part of the proof of the statement PlanWheres: words, contracts of functions that it reaches, and what they compute. No condition. -/
import Derived.Test.YtbmldeikjfecfaaJ03
import Derived.Test.YtbmldeikjfecfaaJ51
set_option linter.unusedVariables false
set_option linter.unusedSimpArgs false
namespace Go.Proofs.Ytbmldeikjfecfaa.Hd
open Go.ChangeShapes Go.WideShapes Go.Deep Go.RowKit Go.Proofs.Ytbmldeikjfecfaa.T Go.Proofs.YtbmldeikjfecfaaW.PrintWords Go.Proofs.YtbmldeikjfecfaaW.PrintLast Go.Proofs.YtbmldeikjfecfaaW.PrintMore
set_option maxRecDepth 100000 in
theorem wheres_raw {H : Type} {enc : TypeId × Value → H} {base : Nat} {dd : DataW H} {p : List MemPlace} {ts : List TypeId} {dl : List (DataW H)} (v : Value) {w : World} (hok : Value.okWide Try.prog w .any base 26 v) (hr : DataW.Trod enc Try.prog w 0 (fun _ => true) true 26 v dd p) (hsz : (DataW.weightsEach Try.prog ts dl).all (· ≤ reachBytes) = true) (htj : ts[0]? = some 26) (hdj : dl[0]? = some dd)
    (i : Int) (hi : (Lit.int .i64 i).wf = true) (t : Int) (ht : (Lit.int .i64 t).wf = true) (w' : World) (hw : w' = w) :
    Calls Try.prog 3 #[v, .int .i64 i, .int .i64 t] w' fun e w1 => e = .returned (.bool true) ∧ Below w'.heap.size w' w1 := by
  subst hw
  obtain ⟨hosts, cyc, dly, win, prec, A5, c5, ds, A6, c6, es, A7, c7, ls, q, rfl, hs, r5, l5, r6, l6, r7, l7⟩ := config_open hok hr
  obtain ⟨k, hk⟩ := wheres hs i t (wf_i64 ht)
  exact T.tocsinlaw15_PlanWheres.calls k hosts cyc dly win prec A5 c5 ds A6 c6 es A7 c7 ls q i t true w' r5 l5 r6 l6 r7 l7 hk
end Go.Proofs.Ytbmldeikjfecfaa.Hd
