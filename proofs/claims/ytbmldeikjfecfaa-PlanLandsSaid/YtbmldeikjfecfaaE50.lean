/- A part of the proof of the statement PlanLands: words, contracts of functions that it reaches, and what they compute. No condition. -/
import Derived.Test.YtbmldeikjfecfaaE03
import Derived.Test.YtbmldeikjfecfaaE49
set_option linter.unusedVariables false
set_option linter.unusedSimpArgs false
namespace Go.Proofs.Ytbmldeikjfecfaa.Hd
open Go.ChangeShapes Go.WideShapes Go.Deep Go.RowKit Go.Proofs.Ytbmldeikjfecfaa.T Go.Proofs.YtbmldeikjfecfaaW.PrintWords Go.Proofs.YtbmldeikjfecfaaW.PrintLast Go.Proofs.YtbmldeikjfecfaaW.PrintMore
theorem okWide_array {P : Program} {w : World} {r : Reach} {base : Nat} {t e : TypeId} {n : Nat} {v : Value} (ht : P.underlying t = some (.array n e)) (h : Value.okWide P w r base t v) : ∃ cs, v = .agg cs ∧ cs.size = P.cellsOf t := by
  simp only [Value.okWide, ht] at h
  obtain ⟨cs, h1, h2, _⟩ := h
  exact ⟨cs, h1, h2⟩
theorem arr_int {H : Type} {enc : TypeId × Value → H} {P : Program} {w : World} {base : Nat} {spare : Nat → Bool} {held : Bool} {t e : TypeId} {k : IntKind} {n m : Nat} {cs : List Value} {x : DataW H × List MemPlace} (ht : P.underlying t = some (.array n e)) (hk : P.underlying e = some (.int k)) (h1 : P.cellsOf e = 1)
    (h : DataW.trod enc P w base spare held m t cs = some x) {j : Nat} {v : Value} (hjn : j < n) (hj : cs[j]? = some v) : ∃ z : Int, v = .int k z ∧ (Lit.int k z).wf = true := by
  obtain ⟨xs, m', _, _, _, hl, hall⟩ := DataW.trod_array ht h
  obtain ⟨hjc, hv⟩ := List.getElem?_eq_some_iff.1 hj
  have hjx : j < xs.length := by omega
  have h2 := hall j hjn
  rw [h1, Nat.mul_one, List.drop_eq_getElem_cons hjc, List.take_succ_cons, List.take_zero, List.getElem?_eq_getElem hjx, hv] at h2
  obtain ⟨z, e1, _, hw⟩ := DataW.trod_int hk h2
  injection e1 with e1
  exact ⟨z, e1, hw⟩
set_option maxRecDepth 100000 in
theorem open_four {H : Type} {enc : TypeId × Value → H} {W : World} {r : Reach} {b0 base : Nat} {v : Value} {d : DataW H} {p : List MemPlace} (hok : Value.okWide Try.prog W r b0 42 v) (hr : DataW.Trod enc Try.prog W base (fun _ => true) true 42 v d p) :
    ∃ a b c e : Int, v = .agg #[.int .i32 a, .int .i32 b, .int .i32 c, .int .i32 e] := by
  obtain ⟨cs, rfl, hsz⟩ := okWide_array Try.underlying42 hok
  have hC : Try.prog.cellsOf 42 = 4 := by kernel_rfl
  rw [hC] at hsz
  obtain ⟨l⟩ := cs
  have hl : l.length = 4 := by simpa using hsz
  obtain ⟨fuel, hf⟩ := hr
  have hcl : (Value.agg ⟨l⟩).cells.toList = l := by simp [Value.cells]
  rw [hcl] at hf
  match l, hl with
  | [v0, v1, v2, v3], _ =>
    obtain ⟨z0, rfl, w0⟩ := arr_int Try.underlying42 Try.underlying21 (by kernel_rfl) hf (j := 0) (by omega) rfl
    obtain ⟨z1, rfl, w1⟩ := arr_int Try.underlying42 Try.underlying21 (by kernel_rfl) hf (j := 1) (by omega) rfl
    obtain ⟨z2, rfl, w2⟩ := arr_int Try.underlying42 Try.underlying21 (by kernel_rfl) hf (j := 2) (by omega) rfl
    obtain ⟨z3, rfl, w3⟩ := arr_int Try.underlying42 Try.underlying21 (by kernel_rfl) hf (j := 3) (by omega) rfl
    exact ⟨z0, z1, z2, z3, rfl⟩
set_option maxRecDepth 100000 in
theorem lands_raw {H : Type} {enc : TypeId × Value → H} {base : Nat} {dd : DataW H} {p : List MemPlace} {ts : List TypeId} {dl : List (DataW H)} (v : Value) {w : World} (hok : Value.okWide Try.prog w .any base 26 v) (hr : DataW.Trod enc Try.prog w 0 (fun _ => true) true 26 v dd p) (hsz : (DataW.weightsEach Try.prog ts dl).all (· ≤ reachBytes) = true) (htj : ts[0]? = some 26) (hdj : dl[0]? = some dd)
    (i : Int) (hi : (Lit.int .i64 i).wf = true)
    {dd2 : DataW H} {p2 : List MemPlace} (v2 : Value) (hok2 : Value.okWide Try.prog w .any base 42 v2) (hr2 : DataW.Trod enc Try.prog w 0 (fun _ => true) true 42 v2 dd2 p2) (hsz2 : (DataW.weightsEach Try.prog ts dl).all (· ≤ reachBytes) = true) (htj2 : ts[2]? = some 42) (hdj2 : dl[2]? = some dd2)
    (w' : World) (hw : w' = w) :
    Calls Try.prog 6 #[v, .int .i64 i, v2] w' fun e w1 => e = .returned (.bool true) ∧ Below w'.heap.size w' w1 := by
  subst hw
  obtain ⟨hosts, cyc, dly, win, prec, A5, c5, ds, A6, c6, es, A7, c7, ls, q, rfl, hs, r5, l5, r6, l6, r7, l7⟩ := config_open hok hr
  obtain ⟨a, b, c, e, rfl⟩ := open_four hok2 hr2
  exact lands_calls w' r5 l5 r6 l6 r7 l7 hs i a b c e
end Go.Proofs.Ytbmldeikjfecfaa.Hd
