/- A part of the proof of the statement PlanLands: words, contracts of functions that it reaches, and what they compute. No condition. -/
import Derived.Test.YtbmldeikjfecfaaE16
set_option linter.unusedVariables false
set_option linter.unusedSimpArgs false
namespace Go.Proofs.Ytbmldeikjfecfaa.Hd
open Go.RowKit Go.Proofs.Ytbmldeikjfecfaa.T Go.Proofs.YtbmldeikjfecfaaW.PrintWords Go.Proofs.YtbmldeikjfecfaaW.PrintLast Go.Proofs.YtbmldeikjfecfaaW.PrintMore
section
variable {hosts cyc dly win prec : Int} {A5 : Option Addr} {c5 : Nat} {ds : List (List Int)} {A6 : Option Addr} {c6 : Nat} {es : List S40} {A7 : Option Addr} {c7 : Nat} {ls : List S63} {q : Int}
theorem refMid (i : Nat) (hi : i < es.length) (hn : es.length ≤ 9223372036854775807) (x : Int) (hx : x = 5 ∨ x = 6) (r : Bool) (e : S40) (hr : Ev (fun k => tocsinref08_entries.l0 k x ((i + 1 : Nat) : Int) hosts cyc dly win prec ds es ls q) r) :
    Ev (fun k => tocsinref08_entries.j3 k x i false hosts cyc dly win prec ds es ls q e.f0 e.f1 e.f2 e.f3) r := by
  have e1 : decide (x > 6) = false := decide_eq_false (by omega)
  refine Ev.step (f := fun k => tocsinref08_entries.l1 k x i 0 hosts cyc dly win prec ds es ls q e.f0 e.f1 e.f2 e.f3) (fun k => by rw [tocsinref08_entries.j3, if_neg (by decide)]) ?_
  have hj : Ev (fun k => tocsinref08_entries.j5 k x i 0 false hosts cyc dly win prec ds es ls q e.f0 e.f1 e.f2 e.f3) r :=
    Ev.step (f := fun k => tocsinref08_entries.l0 k x ((i + 1 : Nat) : Int) hosts cyc dly win prec ds es ls q) (fun k => by rw [tocsinref08_entries.j5, if_neg (by decide), w64 (by omega)]; rfl) hr
  by_cases h0 : (0 : Int) < i
  · exact Ev.step (f := fun k => tocsinref08_entries.j5 k x i 0 false hosts cyc dly win prec ds es ls q e.f0 e.f1 e.f2 e.f3) (fun k => by rw [tocsinref08_entries.l1, if_pos h0, e1]) hj
  · exact Ev.step (f := fun k => tocsinref08_entries.j5 k x i 0 false hosts cyc dly win prec ds es ls q e.f0 e.f1 e.f2 e.f3) (fun k => by rw [tocsinref08_entries.l1, if_neg h0]) hj
theorem refE5_loop (h1 : 1 ≤ hosts) (h6 : hosts ≤ 6) (ho : ∀ e ∈ es, okE e) (hn : es.length ≤ 9223372036854775807) : ∀ (d i : Nat), i + d = es.length → Ev (fun k => tocsinref08_entries.l0 k 5 i hosts cyc dly win prec ds es ls q) (anyFrom es.length (fun j => bad5 hosts (es.getD j z40)) i) := by
  intro d
  induction d with
  | zero =>
    intro i hi
    rw [anyFrom_end (by omega)]
    exact Ev.step (f := fun _ => some false) (fun k => by rw [tocsinref08_entries.l0, if_neg (by omega)]) (Ev.now _)
  | succ d ih =>
    intro i hi
    have hm := getE (l := es) (i := i) (by omega)
    refine Ev.step (f := fun k => (tocsinref08_Route.f k hosts (es.getD i z40).f0 (es.getD i z40).f1 (es.getD i z40).f3).bind fun t153 => tocsinref08_entries.j2 k 5 i (!t153) hosts cyc dly win prec ds es ls q (es.getD i z40).f0 (es.getD i z40).f1 (es.getD i z40).f2 (es.getD i z40).f3) (fun k => by rw [tocsinref08_entries.l0, if_pos (by omega), if_pos (by omega), if_pos rfl, rdE]) ?_
    refine Ev.bind (refRoute_ev hosts _ _ _ h1 h6 (ho _ hm).2.1) ?_
    cases hr : routeV hosts (es.getD i z40).f0 (es.getD i z40).f1 (es.getD i z40).f3 with
    | false =>
      rw [anyFrom_yes (by omega) (by unfold bad5; rw [hr]; rfl)]
      exact Ev.step (f := fun _ => some true) (fun k => by rw [tocsinref08_entries.j2, if_pos (show (!false) = true by decide)]) (Ev.now _)
    | true =>
      rw [anyFrom_no (by unfold bad5; rw [hr]; rfl)]
      exact Ev.step (f := fun k => tocsinref08_entries.j3 k 5 i false hosts cyc dly win prec ds es ls q (es.getD i z40).f0 (es.getD i z40).f1 (es.getD i z40).f2 (es.getD i z40).f3) (fun k => by rw [tocsinref08_entries.j2, if_neg (by decide), if_neg (by decide)]) (refMid i (by omega) hn 5 (.inl rfl) _ (es.getD i z40) (ih (i + 1) (by omega)))
theorem refE6_loop (hs : spansV cyc dly win prec = true) (hn : es.length ≤ 9223372036854775807) : ∀ (d i : Nat), i + d = es.length → Ev (fun k => tocsinref08_entries.l0 k 6 i hosts cyc dly win prec ds es ls q) (anyFrom es.length (fun j => bad6 cyc dly win prec (es.getD j z40)) i) := by
  have hsp := of_decide_eq_true hs
  intro d
  induction d with
  | zero =>
    intro i hi
    rw [anyFrom_end (by omega)]
    exact Ev.step (f := fun _ => some false) (fun k => by rw [tocsinref08_entries.l0, if_neg (by omega)]) (Ev.now _)
  | succ d ih =>
    intro i hi
    have tail := refMid (hosts := hosts) (cyc := cyc) (dly := dly) (win := win) (prec := prec) (ds := ds) (ls := ls) (q := q) i (by omega) hn 6 (.inr rfl) _ (es.getD i z40) (ih (i + 1) (by omega))
    refine Ev.step (f := fun k => tocsinref08_entries.j2 k 6 i false hosts cyc dly win prec ds es ls q (es.getD i z40).f0 (es.getD i z40).f1 (es.getD i z40).f2 (es.getD i z40).f3) (fun k => by rw [tocsinref08_entries.l0, if_pos (by omega), if_pos (by omega), if_neg (by decide), rdE]) ?_
    generalize hE : es.getD i z40 = e at tail
    have yes : Ev (fun k => tocsinref08_entries.j3 k 6 i true hosts cyc dly win prec ds es ls q e.f0 e.f1 e.f2 e.f3) true := Ev.step (f := fun _ => some true) (fun k => by rw [tocsinref08_entries.j3, if_pos rfl]) (Ev.now _)
    by_cases c1 : e.f2 < quietV dly win prec
    · rw [anyFrom_yes (by omega) (by rw [hE]; unfold bad6; rw [decide_eq_true c1]; rfl)]
      exact Ev.step (f := fun k => tocsinref08_entries.j3 k 6 i true hosts cyc dly win prec ds es ls q e.f0 e.f1 e.f2 e.f3) (fun k => by rw [tocsinref08_entries.j2, if_neg (by decide), if_pos rfl, refQuiet_f hs, Option.bind_some, if_pos c1]) yes
    · by_cases c2 : e.f2 ≥ cyc
      · rw [anyFrom_yes (by omega) (by rw [hE]; unfold bad6; rw [decide_eq_true (show cyc ≤ e.f2 from c2)]; simp)]
        exact Ev.step (f := fun k => tocsinref08_entries.j3 k 6 i true hosts cyc dly win prec ds es ls q e.f0 e.f1 e.f2 e.f3) (fun k => by rw [tocsinref08_entries.j2, if_neg (by decide), if_pos rfl, refQuiet_f hs, Option.bind_some, if_neg c1, if_pos c2]) yes
      · have hq : 0 ≤ quietV dly win prec := by unfold quietV; omega
        refine Ev.step (f := fun k => tocsinref08_entries.j3 k 6 i (decide (lateV dly prec e ≥ cyc)) hosts cyc dly win prec ds es ls q e.f0 e.f1 e.f2 e.f3) (fun k => by rw [tocsinref08_entries.j2, if_neg (by decide), if_pos rfl, refQuiet_f hs, Option.bind_some, if_neg c1, if_neg c2, refTimes_f e hs (by omega), Option.bind_some]) ?_
        by_cases c3 : lateV dly prec e ≥ cyc
        · rw [decide_eq_true c3, anyFrom_yes (by omega) (by rw [hE]; unfold bad6; rw [decide_eq_true (show cyc ≤ lateV dly prec e from c3)]; simp)]
          exact yes
        · rw [decide_eq_false c3, anyFrom_no (by rw [hE]; unfold bad6; rw [decide_eq_false c1, decide_eq_false (show ¬ cyc ≤ e.f2 by omega), decide_eq_false (show ¬ cyc ≤ lateV dly prec e by omega)]; rfl)]
          exact tail
theorem any_drop {l : List S40} {i j : Nat} (hj : j < i) (hi : i ≤ l.length) (p : S40 → Bool) : ((l.take i).drop j).any p = (p (l.getD j z40) || ((l.take i).drop (j + 1)).any p) := by
  have hl : j < (l.take i).length := by rw [List.length_take]; omega
  rw [List.drop_eq_getElem_cons hl, List.any_cons, List.getElem_take, List.getD_eq_getElem?_getD, List.getElem?_eq_getElem (show j < l.length by omega)]
  rfl
theorem refIn_loop (hs : spansV cyc dly win prec = true) (hn : es.length ≤ 9223372036854775807) (hb : ∀ e ∈ es, -1125899906842624 ≤ e.f2 ∧ e.f2 ≤ 1073741824) (i : Nat) (hi : i < es.length) (x : Int) (hx : x = 7 ∨ x = 8) (e : S40) (he : e ∈ es) (r : Bool)
    (hr : Ev (fun k => tocsinref08_entries.l0 k x ((i + 1 : Nat) : Int) hosts cyc dly win prec ds es ls q) r) : ∀ (d j : Nat), j + d = i →
    Ev (fun k => tocsinref08_entries.l1 k x i j hosts cyc dly win prec ds es ls q e.f0 e.f1 e.f2 e.f3) (((es.take i).drop j).any (fun b => if x = 7 then bad7 e b else bad8 dly prec e b) || r) := by
  have hsp := of_decide_eq_true hs
  have e1 : decide (x > 6) = true := decide_eq_true (by omega)
  have hbe := hb e he
  have hte := time_in e.f3
  intro d
  induction d with
  | zero =>
    intro j hj
    obtain rfl : j = i := by omega
    rw [List.drop_of_length_le (by rw [List.length_take]; omega), List.any_nil, Bool.false_or]
    refine Ev.step (f := fun k => tocsinref08_entries.j5 k x j j false hosts cyc dly win prec ds es ls q e.f0 e.f1 e.f2 e.f3) (fun k => by rw [tocsinref08_entries.l1, if_neg (by omega)]) ?_
    exact Ev.step (f := fun k => tocsinref08_entries.l0 k x ((j + 1 : Nat) : Int) hosts cyc dly win prec ds es ls q) (fun k => by rw [tocsinref08_entries.j5, if_neg (by decide), w64 (by omega)]; rfl) hr
  | succ d ih =>
    intro j hj
    have hm := getE (l := es) (i := j) (by omega)
    rw [any_drop (by omega) (by omega)]
    refine Ev.step (f := fun k => tocsinref08_entries.j5 k x i j true hosts cyc dly win prec ds es ls q e.f0 e.f1 e.f2 e.f3) (fun k => by rw [tocsinref08_entries.l1, if_pos (by omega), e1]) ?_
    have next := ih (j + 1) (by omega)
    generalize ((es.take i).drop (j + 1)).any (fun b => if x = 7 then bad7 e b else bad8 dly prec e b) = R at next ⊢
    have hj5 : ∀ k, tocsinref08_entries.j5 (k + 1) x i j true hosts cyc dly win prec ds es ls q e.f0 e.f1 e.f2 e.f3 = (if x = 7 then (if e.f0 = (es.getD j z40).f0 then ((tocsinref08_meet.f e.f2 (timeV e.f3) ((es.getD j z40).f2) (timeV (es.getD j z40).f3)).bind fun t164 => (tocsinref08_entries.j6 k x i j (timeV e.f3) (timeV (es.getD j z40).f3) t164 hosts cyc dly win prec ds es ls q e.f0 e.f1 e.f2 e.f3 (es.getD j z40).f0 (es.getD j z40).f1 (es.getD j z40).f2 (es.getD j z40).f3)) else (tocsinref08_entries.j6 k x i j (timeV e.f3) (timeV (es.getD j z40).f3) false hosts cyc dly win prec ds es ls q e.f0 e.f1 e.f2 e.f3 (es.getD j z40).f0 (es.getD j z40).f1 (es.getD j z40).f2 (es.getD j z40).f3)) else (tocsinref08_entries.j6 k x i j (timeV e.f3) (timeV (es.getD j z40).f3) false hosts cyc dly win prec ds es ls q e.f0 e.f1 e.f2 e.f3 (es.getD j z40).f0 (es.getD j z40).f1 (es.getD j z40).f2 (es.getD j z40).f3)) := by
      intro k
      rw [tocsinref08_entries.j5, if_pos rfl, if_pos (by omega), if_pos (by omega), refTime_f, Option.bind_some, rdE, refTime_f, Option.bind_some]
    generalize hB : es.getD j z40 = b at hj5 hm
    have hbb := hb b hm
    have htb := time_in b.f3
    have hyes : Ev (fun k => tocsinref08_entries.j6 k x i j (timeV e.f3) (timeV b.f3) true hosts cyc dly win prec ds es ls q e.f0 e.f1 e.f2 e.f3 b.f0 b.f1 b.f2 b.f3) true := Ev.step (f := fun _ => some true) (fun k => by rw [tocsinref08_entries.j6, if_pos rfl]) (Ev.now _)
    rcases hx with rfl | rfl
    · simp only [if_true] at *
      have hno : Ev (fun k => tocsinref08_entries.j6 k 7 i j (timeV e.f3) (timeV b.f3) false hosts cyc dly win prec ds es ls q e.f0 e.f1 e.f2 e.f3 b.f0 b.f1 b.f2 b.f3) (R || r) :=
        Ev.step (f := fun k => tocsinref08_entries.l1 k 7 i ((j + 1 : Nat) : Int) hosts cyc dly win prec ds es ls q e.f0 e.f1 e.f2 e.f3) (fun k => by rw [tocsinref08_entries.j6, if_neg (by decide), if_neg (by decide), w64 (by omega)]; rfl) next
      by_cases c1 : e.f0 = b.f0
      · have hb7 : bad7 e b = meetV e.f2 (timeV e.f3) b.f2 (timeV b.f3) := by unfold bad7; rw [decide_eq_true c1, Bool.true_and]
        refine Ev.step (f := fun k => tocsinref08_entries.j6 k 7 i j (timeV e.f3) (timeV b.f3) (bad7 e b) hosts cyc dly win prec ds es ls q e.f0 e.f1 e.f2 e.f3 b.f0 b.f1 b.f2 b.f3) (fun k => by rw [hj5, if_pos c1, refMeet_f (by omega) (by omega) (by omega) (by omega), Option.bind_some, hb7]) ?_
        cases bad7 e b with
        | true => exact hyes
        | false => exact hno
      · have hb7 : bad7 e b = false := by unfold bad7; rw [decide_eq_false c1, Bool.false_and]
        rw [hb7]
        exact Ev.step (f := fun k => tocsinref08_entries.j6 k 7 i j (timeV e.f3) (timeV b.f3) false hosts cyc dly win prec ds es ls q e.f0 e.f1 e.f2 e.f3 b.f0 b.f1 b.f2 b.f3) (fun k => by rw [hj5, if_neg c1]) hno
    · simp only [show ¬ (8 : Int) = 7 by decide, if_false] at *
      refine Ev.step (f := fun k => tocsinref08_entries.j6 k 8 i j (timeV e.f3) (timeV b.f3) false hosts cyc dly win prec ds es ls q e.f0 e.f1 e.f2 e.f3 b.f0 b.f1 b.f2 b.f3) (fun k => by rw [hj5]) ?_
      have next' : Ev (fun k => tocsinref08_entries.l1 k 8 i (wrap64 ((j : Int) + 1)) hosts cyc dly win prec ds es ls q e.f0 e.f1 e.f2 e.f3) (R || r) := by
        rw [w64 (by omega)]
        exact next
      by_cases c1 : Go.bits .and .u32 e.f1 b.f1 = 0
      · have hb8 : bad8 dly prec e b = false := by unfold bad8; rw [c1]; rfl
        rw [hb8]
        exact Ev.step (f := fun k => tocsinref08_entries.l1 k 8 i (wrap64 ((j : Int) + 1)) hosts cyc dly win prec ds es ls q e.f0 e.f1 e.f2 e.f3) (fun k => by rw [tocsinref08_entries.j6, if_neg (by decide), if_pos rfl, if_pos c1]) next'
      · have fe : -1125899906842624 ≤ fwdV dly prec e ∧ fwdV dly prec e ≤ 1125899906842624 := by unfold fwdV; omega
        have fb : -1125899906842624 ≤ fwdV dly prec b ∧ fwdV dly prec b ≤ 1125899906842624 := by unfold fwdV; omega
        have hb8 : bad8 dly prec e b = meetV (fwdV dly prec e) (timeV e.f3) (fwdV dly prec b) (timeV b.f3) := by
          unfold bad8
          rw [show (Go.bits .and .u32 e.f1 b.f1 != 0) = true from bne_iff_ne.2 c1, Bool.true_and]
        refine Ev.step (f := fun k => if bad8 dly prec e b = true then some true else tocsinref08_entries.l1 k 8 i (wrap64 ((j : Int) + 1)) hosts cyc dly win prec ds es ls q e.f0 e.f1 e.f2 e.f3) (fun k => by rw [tocsinref08_entries.j6, if_neg (by decide), if_pos rfl, if_neg c1, refTimes_f e hs (by omega), Option.bind_some, refTimes_f b hs (by omega), Option.bind_some, refMeet_f fe fb (by omega) (by omega), Option.bind_some, hb8]) ?_
        cases bad8 dly prec e b with
        | true => simp only [if_true]; exact Ev.now true
        | false => simp only [Bool.false_eq_true, if_false]; exact next'
theorem refE78_loop (hs : spansV cyc dly win prec = true) (hn : es.length ≤ 9223372036854775807) (hb : ∀ e ∈ es, -1125899906842624 ≤ e.f2 ∧ e.f2 ≤ 1073741824) (x : Int) (hx : x = 7 ∨ x = 8) : ∀ (d i : Nat), i + d = es.length →
    Ev (fun k => tocsinref08_entries.l0 k x i hosts cyc dly win prec ds es ls q) (anyFrom es.length (fun j => (es.take j).any fun b => if x = 7 then bad7 (es.getD j z40) b else bad8 dly prec (es.getD j z40) b) i) := by
  intro d
  induction d with
  | zero =>
    intro i hi
    rw [anyFrom_end (by omega)]
    exact Ev.step (f := fun _ => some false) (fun k => by rw [tocsinref08_entries.l0, if_neg (by omega)]) (Ev.now _)
  | succ d ih =>
    intro i hi
    have h := refIn_loop (hosts := hosts) (cyc := cyc) (dly := dly) (win := win) (prec := prec) (ds := ds) (ls := ls) (q := q) hs hn hb i (by omega) x hx (es.getD i z40) (getE (by omega)) _ (ih (i + 1) (by omega)) i 0 (by omega)
    rw [List.drop_zero] at h
    have he : anyFrom es.length (fun j => (es.take j).any fun b => if x = 7 then bad7 (es.getD j z40) b else bad8 dly prec (es.getD j z40) b) i = ((es.take i).any (fun b => if x = 7 then bad7 (es.getD i z40) b else bad8 dly prec (es.getD i z40) b) || anyFrom es.length (fun j => (es.take j).any fun b => if x = 7 then bad7 (es.getD j z40) b else bad8 dly prec (es.getD j z40) b) (i + 1)) := by
      cases hc : (es.take i).any (fun b => if x = 7 then bad7 (es.getD i z40) b else bad8 dly prec (es.getD i z40) b) with
      | true => rw [anyFrom_yes (by omega) hc]; rfl
      | false => rw [anyFrom_no hc]; rfl
    rw [he]
    refine Ev.step (f := fun k => tocsinref08_entries.j2 k x i false hosts cyc dly win prec ds es ls q (es.getD i z40).f0 (es.getD i z40).f1 (es.getD i z40).f2 (es.getD i z40).f3) (fun k => by rw [tocsinref08_entries.l0, if_pos (by omega), if_pos (by omega), if_neg (by omega), rdE]) ?_
    refine Ev.step (f := fun k => tocsinref08_entries.j3 k x i false hosts cyc dly win prec ds es ls q (es.getD i z40).f0 (es.getD i z40).f1 (es.getD i z40).f2 (es.getD i z40).f3) (fun k => by rw [tocsinref08_entries.j2, if_neg (by decide), if_neg (by omega)]) ?_
    exact Ev.step (f := fun k => tocsinref08_entries.l1 k x i 0 hosts cyc dly win prec ds es ls q (es.getD i z40).f0 (es.getD i z40).f1 (es.getD i z40).f2 (es.getD i z40).f3) (fun k => by rw [tocsinref08_entries.j3, if_neg (by decide)]) h
theorem refE5_ev (h1 : 1 ≤ hosts) (h6 : hosts ≤ 6) (ho : ∀ e ∈ es, okE e) (hn : es.length ≤ 9223372036854775807) : Ev (fun k => tocsinref08_entries.f k hosts cyc dly win prec ds es ls q 5) (decide (16 < es.length) || es.any (bad5 hosts)) := by
  unfold tocsinref08_entries.f
  simp only [if_true]
  by_cases c : 16 < es.length
  · rw [decide_eq_true c, decide_eq_true (show (es.length : Int) > 16 by omega), Bool.true_or]
    exact Ev.step (f := fun _ => some true) (fun k => by rw [tocsinref08_entries.j0, if_pos rfl]) (Ev.now _)
  · rw [decide_eq_false c, decide_eq_false (show ¬ (es.length : Int) > 16 by omega), Bool.false_or, ← anyFrom_list es z40 (bad5 hosts)]
    exact Ev.step (f := fun k => tocsinref08_entries.l0 k 5 ((0 : Nat) : Int) hosts cyc dly win prec ds es ls q) (fun k => by rw [tocsinref08_entries.j0, if_neg (by decide)]; rfl) (refE5_loop h1 h6 ho hn es.length 0 (by omega))
theorem refE6_ev (hs : spansV cyc dly win prec = true) (hn : es.length ≤ 9223372036854775807) : Ev (fun k => tocsinref08_entries.f k hosts cyc dly win prec ds es ls q 6) (es.any (bad6 cyc dly win prec)) := by
  unfold tocsinref08_entries.f
  simp only [show ¬ (6 : Int) = 5 by decide, if_false]
  rw [← anyFrom_list es z40 (bad6 cyc dly win prec)]
  exact Ev.step (f := fun k => tocsinref08_entries.l0 k 6 ((0 : Nat) : Int) hosts cyc dly win prec ds es ls q) (fun k => by rw [tocsinref08_entries.j0, if_neg (by decide)]; rfl) (refE6_loop hs hn es.length 0 (by omega))
theorem refE7_ev (hs : spansV cyc dly win prec = true) (hn : es.length ≤ 9223372036854775807) (hb : ∀ e ∈ es, -1125899906842624 ≤ e.f2 ∧ e.f2 ≤ 1073741824) : Ev (fun k => tocsinref08_entries.f k hosts cyc dly win prec ds es ls q 7) (pairsV es bad7) := by
  unfold tocsinref08_entries.f
  simp only [show ¬ (7 : Int) = 5 by decide, if_false]
  rw [← anyFrom_pairs es bad7]
  exact Ev.step (f := fun k => tocsinref08_entries.l0 k 7 ((0 : Nat) : Int) hosts cyc dly win prec ds es ls q) (fun k => by rw [tocsinref08_entries.j0, if_neg (by decide)]; rfl) (refE78_loop hs hn hb 7 (.inl rfl) es.length 0 (by omega))
theorem refE8_ev (hs : spansV cyc dly win prec = true) (hn : es.length ≤ 9223372036854775807) (hb : ∀ e ∈ es, -1125899906842624 ≤ e.f2 ∧ e.f2 ≤ 1073741824) : Ev (fun k => tocsinref08_entries.f k hosts cyc dly win prec ds es ls q 8) (pairsV es (bad8 dly prec)) := by
  unfold tocsinref08_entries.f
  simp only [show ¬ (8 : Int) = 5 by decide, if_false]
  rw [← anyFrom_pairs es (bad8 dly prec)]
  exact Ev.step (f := fun k => tocsinref08_entries.l0 k 8 ((0 : Nat) : Int) hosts cyc dly win prec ds es ls q) (fun k => by rw [tocsinref08_entries.j0, if_neg (by decide)]; rfl) (refE78_loop hs hn hb 8 (.inr rfl) es.length 0 (by omega))
theorem refLinks_loop (h1 : 1 ≤ hosts) (h6 : hosts ≤ 6) (ho : ∀ e ∈ ls, okL e) (hn : ls.length ≤ 9223372036854775807) (r : Int) (hr : r = if ¬(1 ≤ q ∧ q ≤ 64) then 10 else 0) : ∀ (d i : Nat), i + d = ls.length →
    Ev (fun k => tocsinref08_Check.l1 k i hosts cyc dly win prec ds es ls q) (if anyFrom ls.length (fun j => bad9 hosts (ls.getD j z63)) i = true then 9 else r) := by
  intro d
  induction d with
  | zero =>
    intro i hi
    rw [anyFrom_end (by omega), if_neg (by decide)]
    refine Ev.step (f := fun _ => some r) (fun k => ?_) (Ev.now _)
    rw [tocsinref08_Check.l1, if_neg (by omega), hr]
    by_cases c1 : q < 1
    · rw [if_pos c1, if_pos (by omega)]
    · rw [if_neg c1]
      by_cases c2 : q > 64
      · rw [if_pos c2, if_pos (by omega)]
      · rw [if_neg c2, if_neg (by omega)]
  | succ d ih =>
    intro i hi
    have hm := getK (l := ls) (i := i) (by omega)
    have next := ih (i + 1) (by omega)
    refine Ev.step (f := fun k => (tocsinref08_Route.f k hosts (ls.getD i z63).f0 (ls.getD i z63).f1 (ls.getD i z63).f3).bind fun t182 => (if t182 = true then (if (ls.getD i z63).f2 < 1 then (some 9) else (if (ls.getD i z63).f2 > 1073741824 then (some 9) else (tocsinref08_Check.l1 k ((i + 1 : Nat) : Int) hosts cyc dly win prec ds es ls q))) else (some 9))) (fun k => by rw [tocsinref08_Check.l1, if_pos (by omega), if_pos (by omega), rdK, w64 (by omega)]; rfl) ?_
    refine Ev.bind (refRoute_ev hosts _ _ _ h1 h6 (ho _ hm).2.1) ?_
    cases hro : routeV hosts (ls.getD i z63).f0 (ls.getD i z63).f1 (ls.getD i z63).f3 with
    | false =>
      rw [anyFrom_yes (by omega) (by unfold bad9; rw [hro]; rfl), if_pos rfl]
      simp only [Bool.false_eq_true, if_false]
      exact Ev.now _
    | true =>
      simp only [if_true]
      by_cases c1 : (ls.getD i z63).f2 < 1
      · rw [anyFrom_yes (by omega) (by unfold bad9; rw [decide_eq_false (by omega)]; simp), if_pos rfl]
        simp only [if_pos c1]
        exact Ev.now _
      · by_cases c2 : (ls.getD i z63).f2 > 1073741824
        · rw [anyFrom_yes (by omega) (by unfold bad9; rw [decide_eq_false (by omega)]; simp), if_pos rfl]
          simp only [if_neg c1, if_pos c2]
          exact Ev.now _
        · rw [anyFrom_no (by unfold bad9; rw [hro, decide_eq_true (by omega)]; rfl)]
          simp only [if_neg c1, if_neg c2]
          exact next
theorem refCheck_ev (hs : sane hosts cyc dly win prec ds es ls q) : Ev (fun k => tocsinref08_Check.f k hosts cyc dly win prec ds es ls q) (checkV hosts cyc dly win prec ds es ls q) := by
  obtain ⟨_, _, _, _, _, _, hds, hes, hls, nd, ne, nl⟩ := hs
  unfold tocsinref08_Check.f
  by_cases c1 : 1 ≤ hosts ∧ hosts ≤ 6
  · simp only [if_neg (show ¬ hosts < 1 by omega)]
    rw [decide_eq_false (show ¬ hosts > 6 by omega)]
    by_cases c2 : 1 ≤ cyc ∧ cyc ≤ 1073741824
    · refine Ev.step (f := fun k => tocsinref08_Check.j1 k false hosts cyc dly win prec ds es ls q) (fun k => by rw [tocsinref08_Check.j0, if_neg (by decide), if_neg (by omega), decide_eq_false (show ¬ cyc > 1073741824 by omega)]) ?_
      cases c3 : spansV cyc dly win prec with
      | false =>
        have ev : checkV hosts cyc dly win prec ds es ls q = 3 := by
          unfold checkV
          rw [if_neg (fun h => h c1), if_neg (fun h => h c2), if_pos c3]
        rw [ev]
        exact Ev.step (f := fun _ => some 3) (fun k => by rw [tocsinref08_Check.j1, if_neg (by decide), refSpans_f, Option.bind_some, c3, if_neg (by decide)]) (Ev.now _)
      | true =>
        refine Ev.step (f := fun k => (tocsinref08_rows.f k hosts cyc dly win prec ds es ls q).bind fun t178 => (if t178 = true then (tocsinref08_Check.l0 k 5 hosts cyc dly win prec ds es ls q) else (some 4))) (fun k => by rw [tocsinref08_Check.j1, if_neg (by decide), refSpans_f, Option.bind_some, if_pos c3]) ?_
        refine Ev.bind (refRows_ev nd) ?_
        by_cases c4 : (ds.length : Int) = hosts ∧ ds.all (rowV dly) = true
        · rw [decide_eq_true c4.1, c4.2]
          simp only [Bool.and_self, if_true]
          have e5 := refE5_ev (hosts := hosts) (cyc := cyc) (dly := dly) (win := win) (prec := prec) (ds := ds) (es := es) (ls := ls) (q := q) c1.1 c1.2 hes ne
          have e6 := refE6_ev (hosts := hosts) (cyc := cyc) (dly := dly) (win := win) (prec := prec) (ds := ds) (es := es) (ls := ls) (q := q) c3 ne
          unfold checkV
          rw [if_neg (fun h => h c1), if_neg (fun h => h c2), if_neg (by rw [c3]; decide), if_neg (fun h => h c4)]
          refine Ev.step (f := fun k => (tocsinref08_entries.f k hosts cyc dly win prec ds es ls q 5).bind fun t179 => (if t179 = true then (some 5) else (tocsinref08_Check.l0 k 6 hosts cyc dly win prec ds es ls q))) (fun k => by rw [tocsinref08_Check.l0, if_pos (by decide), w64 (by decide)]; rfl) ?_
          refine Ev.bind e5 ?_
          by_cases c5 : 16 < es.length ∨ es.any (bad5 hosts) = true
          · have : (decide (16 < es.length) || es.any (bad5 hosts)) = true := by rw [Bool.or_eq_true, decide_eq_true_eq]; exact c5
            rw [this, if_pos c5]
            simp only [if_true]
            exact Ev.now _
          · have : (decide (16 < es.length) || es.any (bad5 hosts)) = false := by rw [Bool.eq_false_iff]; intro h; rw [Bool.or_eq_true, decide_eq_true_eq] at h; exact c5 h
            rw [this, if_neg c5]
            simp only [Bool.false_eq_true, if_false]
            refine Ev.step (f := fun k => (tocsinref08_entries.f k hosts cyc dly win prec ds es ls q 6).bind fun t179 => (if t179 = true then (some 6) else (tocsinref08_Check.l0 k 7 hosts cyc dly win prec ds es ls q))) (fun k => by rw [tocsinref08_Check.l0, if_pos (by decide), w64 (by decide)]; rfl) ?_
            refine Ev.bind e6 ?_
            cases c6 : es.any (bad6 cyc dly win prec) with
            | true => simp only [if_true]; exact Ev.now _
            | false =>
              simp only [Bool.false_eq_true, if_false]
              have hsp := of_decide_eq_true c3
              have hb : ∀ e ∈ es, -1125899906842624 ≤ e.f2 ∧ e.f2 ≤ 1073741824 := fun e he => by
                have := List.any_eq_false.1 c6 e he
                unfold bad6 quietV at this
                simp only [Bool.or_eq_true, decide_eq_true_eq, not_or] at this
                omega
              have e7 := refE7_ev (hosts := hosts) (cyc := cyc) (dly := dly) (win := win) (prec := prec) (ds := ds) (es := es) (ls := ls) (q := q) c3 ne hb
              have e8 := refE8_ev (hosts := hosts) (cyc := cyc) (dly := dly) (win := win) (prec := prec) (ds := ds) (es := es) (ls := ls) (q := q) c3 ne hb
              refine Ev.step (f := fun k => (tocsinref08_entries.f k hosts cyc dly win prec ds es ls q 7).bind fun t179 => (if t179 = true then (some 7) else (tocsinref08_Check.l0 k 8 hosts cyc dly win prec ds es ls q))) (fun k => by rw [tocsinref08_Check.l0, if_pos (by decide), w64 (by decide)]; rfl) ?_
              refine Ev.bind e7 ?_
              cases c7 : pairsV es bad7 with
              | true => simp only [if_true]; exact Ev.now _
              | false =>
                simp only [Bool.false_eq_true, if_false]
                refine Ev.step (f := fun k => (tocsinref08_entries.f k hosts cyc dly win prec ds es ls q 8).bind fun t179 => (if t179 = true then (some 8) else (tocsinref08_Check.l0 k 9 hosts cyc dly win prec ds es ls q))) (fun k => by rw [tocsinref08_Check.l0, if_pos (by decide), w64 (by decide)]; rfl) ?_
                refine Ev.bind e8 ?_
                cases c8 : pairsV es (bad8 dly prec) with
                | true => simp only [if_true]; exact Ev.now _
                | false =>
                  simp only [Bool.false_eq_true, if_false]
                  by_cases c9 : 16 < ls.length
                  · rw [if_pos (.inl c9)]
                    exact Ev.step (f := fun _ => some 9) (fun k => by rw [tocsinref08_Check.l0, if_neg (by decide), if_pos (by omega)]) (Ev.now _)
                  · have h9 := refLinks_loop (hosts := hosts) (cyc := cyc) (dly := dly) (win := win) (prec := prec) (ds := ds) (es := es) (ls := ls) (q := q) c1.1 c1.2 hls nl _ rfl ls.length 0 (by omega)
                    rw [anyFrom_list ls z63 (bad9 hosts)] at h9
                    refine Ev.step (f := fun k => tocsinref08_Check.l1 k ((0 : Nat) : Int) hosts cyc dly win prec ds es ls q) (fun k => by rw [tocsinref08_Check.l0, if_neg (by decide), if_neg (by omega)]; rfl) ?_
                    cases c10 : ls.any (bad9 hosts) with
                    | true => rw [c10] at h9; rw [if_pos (.inr rfl)]; exact h9
                    | false => rw [c10] at h9; rw [if_neg (fun h => h.elim c9 (by decide))]; exact h9
        · have ev : checkV hosts cyc dly win prec ds es ls q = 4 := by
            unfold checkV
            rw [if_neg (fun h => h c1), if_neg (fun h => h c2), if_neg (by rw [c3]; decide), if_pos c4]
          have e4 : (decide ((ds.length : Int) = hosts) && ds.all (rowV dly)) = false := by
            rw [Bool.eq_false_iff]
            intro h
            simp only [Bool.and_eq_true, decide_eq_true_eq] at h
            exact c4 h
          rw [ev, e4]
          simp only [Bool.false_eq_true, if_false]
          exact Ev.now _
    · have ev : checkV hosts cyc dly win prec ds es ls q = 2 := by
        unfold checkV
        rw [if_neg (fun h => h c1), if_pos c2]
      rw [ev]
      have yes : Ev (fun k => tocsinref08_Check.j1 k true hosts cyc dly win prec ds es ls q) 2 := Ev.step (f := fun _ => some 2) (fun k => by rw [tocsinref08_Check.j1, if_pos rfl]) (Ev.now _)
      by_cases c2' : cyc < 1
      · exact Ev.step (f := fun k => tocsinref08_Check.j1 k true hosts cyc dly win prec ds es ls q) (fun k => by rw [tocsinref08_Check.j0, if_neg (by decide), if_pos c2']) yes
      · exact Ev.step (f := fun k => tocsinref08_Check.j1 k true hosts cyc dly win prec ds es ls q) (fun k => by rw [tocsinref08_Check.j0, if_neg (by decide), if_neg c2', decide_eq_true (show cyc > 1073741824 by omega)]) yes
  · have ev : checkV hosts cyc dly win prec ds es ls q = 1 := by
      unfold checkV
      rw [if_pos c1]
    rw [ev]
    have yes : Ev (fun k => tocsinref08_Check.j0 k true hosts cyc dly win prec ds es ls q) 1 := Ev.step (f := fun _ => some 1) (fun k => by rw [tocsinref08_Check.j0, if_pos rfl]) (Ev.now _)
    by_cases c1' : hosts < 1
    · simp only [if_pos c1']; exact yes
    · simp only [if_neg c1']; rw [decide_eq_true (show hosts > 6 by omega)]; exact yes
end
end Go.Proofs.Ytbmldeikjfecfaa.Hd
