/- A part of the proof of the statement PlanLands: words, contracts of functions that it reaches, and what they compute. No condition. -/
import Derived.Test.YtbmldeikjfecfaaE09
import Derived.Test.YtbmldeikjfecfaaE15
set_option linter.unusedVariables false
set_option linter.unusedSimpArgs false
namespace Go.Proofs.Ytbmldeikjfecfaa.Hd
open Go.RowKit Go.Proofs.Ytbmldeikjfecfaa.T Go.Proofs.YtbmldeikjfecfaaW.PrintWords Go.Proofs.YtbmldeikjfecfaaW.PrintLast Go.Proofs.YtbmldeikjfecfaaW.PrintMore
section
variable {hosts cyc dly win prec : Int} {A5 : Option Addr} {c5 : Nat} {ds : List (List Int)} {A6 : Option Addr} {c6 : Nat} {es : List S40} {A7 : Option Addr} {c7 : Nat} {ls : List S63} {q : Int}
theorem refTime_f (s : Int) : tocsinref06_Time.f s = some (timeV s) := by
  unfold tocsinref06_Time.f timeV
  by_cases h1 : s < 64
  · rw [if_pos h1, if_pos h1]; rfl
  · rw [if_neg h1, if_neg h1]
    by_cases h2 : s > 1518
    · rw [if_pos h2, if_pos (by omega)]; rfl
    · rw [if_neg h2, if_neg (by omega), w64 (by omega)]; congr 1; omega
theorem half32 {x : Int} (h0 : 0 ≤ x) (h1 : x < 4294967296) : (Int.tdiv x 2) % 4294967296 = x / 2 := by
  rw [Int.tdiv_eq_ediv_of_nonneg h0]; omega
theorem bit_half (n i : Nat) : (n / 2).testBit i = n.testBit (i + 1) := by rw [Nat.testBit_succ]
theorem refHas_loop (i : Int) (hi : i ≤ 5) : ∀ (d : Nat) (c x : Int), 0 ≤ x → x + d = i → 0 ≤ c → c < 4294967296 → Ev (fun k => tocsinref07_Has.l0 k c i x) (c.toNat.testBit d) := by
  intro d
  induction d with
  | zero =>
    intro c x h0 hx c0 c1
    refine Ev.step (f := fun _ => some (c.toNat.testBit 0)) (fun k => ?_) (Ev.now _)
    rw [tocsinref07_Has.l0, if_neg (by omega)]
    congr 1
    rw [Int.tmod_eq_emod_of_nonneg c0, Nat.testBit_zero, Bool.eq_iff_iff]
    simp only [beq_iff_eq, decide_eq_true_eq]
    omega
  | succ d ih =>
    intro c x h0 hx c0 c1
    refine Ev.step (f := fun k => tocsinref07_Has.l0 k (c / 2) i (x + 1)) (fun k => ?_) ?_
    · rw [tocsinref07_Has.l0, if_pos (by omega), half32 c0 c1, w64 (by omega)]
    · have := ih (c / 2) (x + 1) (by omega) (by omega) (by omega) (by omega)
      rw [show (c / 2).toNat = c.toNat / 2 by omega, bit_half] at this
      exact this
theorem refHas_ev (c i : Int) (hc : u32 c) : Ev (fun k => tocsinref07_Has.f k c i) (hasV c i) := by
  have hc0 := hc.1
  have hc1 := hc.2
  unfold tocsinref07_Has.f hasV
  by_cases h0 : i < 0
  · simp only [if_pos h0]
    rw [decide_eq_false (by omega)]
    exact Ev.step (f := fun _ => some false) (fun k => by rw [tocsinref07_Has.j0, if_pos rfl]) (Ev.now _)
  · simp only [if_neg h0]
    by_cases h5 : i > 5
    · rw [decide_eq_true h5, decide_eq_false (show ¬ i < 6 by omega)]
      simp only [Bool.and_false, Bool.false_and]
      exact Ev.step (f := fun _ => some false) (fun k => by rw [tocsinref07_Has.j0, if_pos rfl]) (Ev.now _)
    · rw [decide_eq_false h5, decide_eq_true (show i < 6 by omega), decide_eq_true (show 0 ≤ i by omega)]
      simp only [Bool.true_and]
      refine Ev.step (f := fun k => tocsinref07_Has.l0 k c i 0) (fun k => by rw [tocsinref07_Has.j0, if_neg (by decide)]) ?_
      exact refHas_loop i (by omega) i.toNat c 0 (by omega) (by omega) hc0 hc1
theorem refRoute_loop (hosts frm dst : Int) (h1 : 1 ≤ hosts) (h6 : hosts ≤ 6) (hd : u32 dst) : ∀ (d : Nat) (x : Nat), (x : Int) + d = hosts → Ev (fun k => tocsinref08_Route.l0 k hosts frm dst (2 ^ x) x) (decide (dst < 2 ^ hosts.toNat) && !hasV dst frm) := by
  intro d
  induction d with
  | zero =>
    intro x hx
    have hx' : hosts.toNat = x := by omega
    rw [hx']
    by_cases hl : dst < 2 ^ x
    · refine Ev.step (f := fun k => (tocsinref07_Has.f k dst frm).bind fun t147 => (some (!t147))) (fun k => ?_) ?_
      · rw [tocsinref08_Route.l0, if_neg (by omega), if_pos hl]
      · rw [decide_eq_true hl, Bool.true_and]
        exact Ev.bind (refHas_ev dst frm hd) (Ev.now _)
    · refine Ev.step (f := fun _ => some false) (fun k => ?_) ?_
      · rw [tocsinref08_Route.l0, if_neg (by omega), if_neg hl]
      · rw [decide_eq_false hl]; exact Ev.now _
  | succ d ih =>
    intro x hx
    have hp : (2 : Int) ^ x ≤ 2 ^ 6 := by
      have : (2 : Nat) ^ x ≤ 2 ^ 6 := Nat.pow_le_pow_right (by decide) (by omega)
      exact_mod_cast this
    have hp0 : (0 : Int) < 2 ^ x := Int.pow_pos (by decide)
    have e6 : (2 : Int) ^ 6 = 64 := by decide
    refine Ev.step (f := fun k => tocsinref08_Route.l0 k hosts frm dst (2 ^ (x + 1)) ((x + 1 : Nat) : Int)) (fun k => ?_) (ih (x + 1) (by omega))
    rw [tocsinref08_Route.l0, if_pos (by omega), w64 (by omega)]
    congr 1
    rw [Int.pow_succ]
    omega
theorem refRoute_ev (hosts frm dst size : Int) (h1 : 1 ≤ hosts) (h6 : hosts ≤ 6) (hd : u32 dst) : Ev (fun k => tocsinref08_Route.f k hosts frm dst size) (routeV hosts frm dst size) := by
  have no : Ev (fun k => tocsinref08_Route.j0 k hosts frm dst true) false := Ev.step (f := fun _ => some false) (fun k => by rw [tocsinref08_Route.j0, if_pos rfl]) (Ev.now _)
  unfold tocsinref08_Route.f routeV
  by_cases c1 : frm < 0
  · simp only [if_pos c1]; rw [decide_eq_false (show ¬ 0 ≤ frm by omega)]; simpa using no
  · simp only [if_neg c1]
    by_cases c2 : frm ≥ hosts
    · simp only [if_pos c2]; rw [decide_eq_false (show ¬ frm < hosts by omega)]; simpa using no
    · simp only [if_neg c2]
      by_cases c3 : dst = 0
      · simp only [if_pos c3]; rw [decide_eq_false (show ¬ dst ≠ 0 by omega)]; simpa using no
      · simp only [if_neg c3]
        by_cases c4 : size < 64
        · simp only [if_pos c4]; rw [decide_eq_false (show ¬ 64 ≤ size by omega)]; simpa using no
        · simp only [if_neg c4]
          by_cases c5 : size > 1518
          · rw [decide_eq_true c5, decide_eq_false (show ¬ size ≤ 1518 by omega)]; simpa using no
          · rw [decide_eq_false c5, decide_eq_true (show 0 ≤ frm by omega), decide_eq_true (show frm < hosts by omega), decide_eq_true (show dst ≠ 0 from c3), decide_eq_true (show 64 ≤ size by omega), decide_eq_true (show size ≤ 1518 by omega)]
            simp only [Bool.true_and, Bool.and_true]
            exact Ev.step (f := fun k => tocsinref08_Route.l0 k hosts frm dst 1 0) (fun k => by rw [tocsinref08_Route.j0, if_neg (by decide)]) (refRoute_loop hosts frm dst h1 h6 hd hosts.toNat 0 (by omega))
theorem refSpans_f : tocsinref08_Spans.f hosts cyc dly win prec ds es ls q = some (spansV cyc dly win prec) := by
  have sh : ∀ n, tocsinref08_short.f n = some (decide (0 ≤ n ∧ n ≤ 1048576)) := by
    intro n
    unfold tocsinref08_short.f
    by_cases h : n ≥ 0
    · rw [if_pos h]; congr 1; apply decide_eq_decide.2; omega
    · rw [if_neg h, decide_eq_false (by omega)]
  unfold tocsinref08_Spans.f spansV
  rw [sh, sh, sh]
  by_cases c1 : cyc ≥ 1
  · rw [if_pos c1]
    by_cases c0 : cyc ≤ 1073741824
    · rw [if_pos c0, Option.bind_some]
      by_cases c2 : 0 ≤ dly ∧ dly ≤ 1048576
      · rw [decide_eq_true c2, if_pos rfl, Option.bind_some]
        by_cases c3 : 0 ≤ win ∧ win ≤ 1048576
        · rw [decide_eq_true c3, if_pos rfl, Option.bind_some]
          congr 1; apply decide_eq_decide.2; omega
        · rw [decide_eq_false c3, if_neg (by decide), decide_eq_false (by omega)]
      · rw [decide_eq_false c2, if_neg (by decide), decide_eq_false (by omega)]
    · rw [if_neg c0, decide_eq_false (by omega)]
  · rw [if_neg c1, decide_eq_false (by omega)]
def anyFrom (n : Nat) (p : Nat → Bool) (i : Nat) : Bool := (List.range n).any fun j => decide (i ≤ j) && p j
theorem anyFrom_iff {n : Nat} {p : Nat → Bool} {i : Nat} : anyFrom n p i = true ↔ ∃ j, j < n ∧ i ≤ j ∧ p j = true := by
  unfold anyFrom
  simp
theorem anyFrom_end {n : Nat} {p : Nat → Bool} {i : Nat} (h : n ≤ i) : anyFrom n p i = false := by
  rw [Bool.eq_false_iff]
  intro h'
  obtain ⟨j, h1, h2, _⟩ := anyFrom_iff.1 h'
  omega
theorem anyFrom_yes {n : Nat} {p : Nat → Bool} {i : Nat} (h : i < n) (hp : p i = true) : anyFrom n p i = true := anyFrom_iff.2 ⟨i, h, Nat.le_refl _, hp⟩
theorem anyFrom_no {n : Nat} {p : Nat → Bool} {i : Nat} (hp : p i = false) : anyFrom n p i = anyFrom n p (i + 1) := by
  rw [Bool.eq_iff_iff, anyFrom_iff, anyFrom_iff]
  constructor
  · rintro ⟨j, h1, h2, h3⟩
    refine ⟨j, h1, ?_, h3⟩
    by_cases e : i = j
    · subst e; rw [hp] at h3; cases h3
    · omega
  · rintro ⟨j, h1, h2, h3⟩
    exact ⟨j, h1, by omega, h3⟩
theorem anyFrom_list {α : Type} (l : List α) (z : α) (p : α → Bool) : anyFrom l.length (fun i => p (l.getD i z)) 0 = l.any p := by
  rw [Bool.eq_iff_iff, anyFrom_iff, List.any_eq_true]
  constructor
  · rintro ⟨j, h1, _, h3⟩
    rw [List.getD_eq_getElem?_getD, List.getElem?_eq_getElem h1] at h3
    exact ⟨l[j], List.getElem_mem h1, h3⟩
  · rintro ⟨x, hx, hp⟩
    obtain ⟨j, hj, rfl⟩ := List.mem_iff_getElem.1 hx
    refine ⟨j, hj, Nat.zero_le _, ?_⟩
    rw [List.getD_eq_getElem?_getD, List.getElem?_eq_getElem hj]
    exact hp
theorem anyFrom_pairs (l : List S40) (bad : S40 → S40 → Bool) : anyFrom l.length (fun i => (l.take i).any fun b => bad (l.getD i z40) b) 0 = pairsV l bad := by
  unfold anyFrom pairsV
  simp
theorem rdE (l : List S40) (i : Nat) : rd_T40 l (i : Int) = l.getD i z40 := by unfold rd_T40; rw [Int.toNat_natCast]
theorem rdK (l : List S63) (i : Nat) : rd_T63 l (i : Int) = l.getD i z63 := by unfold rd_T63; rw [Int.toNat_natCast]
theorem getE {l : List S40} {i : Nat} (h : i < l.length) : l.getD i z40 ∈ l := by rw [List.getD_eq_getElem?_getD, List.getElem?_eq_getElem h]; exact List.getElem_mem _
theorem getK {l : List S63} {i : Nat} (h : i < l.length) : l.getD i z63 ∈ l := by rw [List.getD_eq_getElem?_getD, List.getElem?_eq_getElem h]; exact List.getElem_mem _
theorem refRow_ev (i : Nat) (hi : i < ds.length) (hl : (ds.getD i []).length = 2) (r : Bool) (hr : Ev (fun k => tocsinref08_rows.l0 k ((i + 1 : Nat) : Int) hosts cyc dly win prec ds es ls q) r) (hn : ds.length ≤ 9223372036854775807) :
    Ev (fun k => tocsinref08_rows.l1 k i 0 hosts cyc dly win prec ds es ls q) (if (ds.getD i []).all (fun n => decide (0 ≤ n ∧ n ≤ dly)) = true then r else false) := by
  have er : rd_L1 ds (i : Int) = ds.getD i [] := by unfold rd_L1; rw [Int.toNat_natCast]
  generalize hy : ds.getD i [] = y at hl
  obtain ⟨a, b, rfl⟩ : ∃ a b, y = [a, b] := by
    match y, hl with
    | [a, b], _ => exact ⟨a, b, rfl⟩
  have r0 : rd [a, b] 0 = a := rfl
  have r1 : rd [a, b] 1 = b := rfl
  have step : ∀ k (x4 : Int) (v : Int), 0 ≤ x4 → x4 < 2 → rd [a, b] x4 = v → tocsinref08_rows.l1 (k + 1) i x4 hosts cyc dly win prec ds es ls q = if 0 ≤ v ∧ v ≤ dly then tocsinref08_rows.l1 k i (x4 + 1) hosts cyc dly win prec ds es ls q else some false := by
    intro k x4 v h0 h2 hv
    rw [tocsinref08_rows.l1, if_pos h2, if_pos (by omega), if_pos (by omega), if_pos h0, er, hy, if_pos (by simpa using h2), hv, w64 (by omega)]
    by_cases c : v < 0
    · rw [if_pos c, if_neg (by omega)]
    · rw [if_neg c]
      by_cases c' : v > dly
      · rw [if_pos c', if_neg (by omega)]
      · rw [if_neg c', if_pos (by omega)]
  have last : Ev (fun k => tocsinref08_rows.l1 k i 2 hosts cyc dly win prec ds es ls q) r := Ev.step (f := fun k => tocsinref08_rows.l0 k ((i + 1 : Nat) : Int) hosts cyc dly win prec ds es ls q) (fun k => by rw [tocsinref08_rows.l1, if_neg (by omega), w64 (by omega)]; rfl) hr
  simp only [List.all_cons, List.all_nil, Bool.and_true]
  by_cases ca : 0 ≤ a ∧ a ≤ dly
  · rw [decide_eq_true ca, Bool.true_and]
    refine Ev.step (f := fun k => tocsinref08_rows.l1 k i 1 hosts cyc dly win prec ds es ls q) (fun k => by rw [step k 0 a (by omega) (by omega) r0, if_pos ca]; rfl) ?_
    by_cases cb : 0 ≤ b ∧ b ≤ dly
    · rw [decide_eq_true cb, if_pos rfl]
      exact Ev.step (f := fun k => tocsinref08_rows.l1 k i 2 hosts cyc dly win prec ds es ls q) (fun k => by rw [step k 1 b (by omega) (by omega) r1, if_pos cb]; rfl) last
    · rw [decide_eq_false cb, if_neg (by decide)]
      exact Ev.step (f := fun _ => some false) (fun k => by rw [step k 1 b (by omega) (by omega) r1, if_neg cb]) (Ev.now _)
  · rw [decide_eq_false ca, Bool.false_and, if_neg (by decide)]
    exact Ev.step (f := fun _ => some false) (fun k => by rw [step k 0 a (by omega) (by omega) r0, if_neg ca]) (Ev.now _)
theorem refRows_loop (hn : ds.length ≤ 9223372036854775807) : ∀ (d i : Nat), i + d = ds.length → Ev (fun k => tocsinref08_rows.l0 k i hosts cyc dly win prec ds es ls q) (!anyFrom ds.length (fun j => !rowV dly (ds.getD j [])) i) := by
  intro d
  induction d with
  | zero =>
    intro i hi
    rw [anyFrom_end (by omega)]
    exact Ev.step (f := fun _ => some true) (fun k => by rw [tocsinref08_rows.l0, if_neg (by omega)]) (Ev.now _)
  | succ d ih =>
    intro i hi
    have er : rd_L1 ds (i : Int) = ds.getD i [] := by unfold rd_L1; rw [Int.toNat_natCast]
    by_cases hl : (ds.getD i []).length = 2
    · have h := refRow_ev (hosts := hosts) (cyc := cyc) (dly := dly) (win := win) (prec := prec) (es := es) (ls := ls) (q := q) i (by omega) hl _ (ih (i + 1) (by omega)) hn
      refine Ev.step (f := fun k => tocsinref08_rows.l1 k i 0 hosts cyc dly win prec ds es ls q) (fun k => by rw [tocsinref08_rows.l0, if_pos (by omega), if_pos (by omega), er, if_pos (by omega)]) ?_
      by_cases ha : (ds.getD i []).all (fun n => decide (0 ≤ n ∧ n ≤ dly)) = true
      · rw [if_pos ha] at h
        rw [anyFrom_no (by unfold rowV; rw [decide_eq_true hl, ha]; rfl)]
        exact h
      · rw [if_neg ha] at h
        rw [anyFrom_yes (by omega) (by unfold rowV; rw [Bool.not_eq_true'] ; simp only [Bool.and_eq_false_iff]; right; simpa using ha)]
        exact h
    · rw [anyFrom_yes (by omega) (by unfold rowV; rw [decide_eq_false hl]; rfl)]
      exact Ev.step (f := fun _ => some false) (fun k => by rw [tocsinref08_rows.l0, if_pos (by omega), if_pos (by omega), er, if_neg (by omega)]) (Ev.now _)
theorem refRows_ev (hn : ds.length ≤ 9223372036854775807) : Ev (fun k => tocsinref08_rows.f k hosts cyc dly win prec ds es ls q) (decide ((ds.length : Int) = hosts) && ds.all (rowV dly)) := by
  unfold tocsinref08_rows.f
  by_cases h : (ds.length : Int) = hosts
  · simp only [if_pos h]
    have := refRows_loop (hosts := hosts) (cyc := cyc) (dly := dly) (win := win) (prec := prec) (es := es) (ls := ls) (q := q) hn ds.length 0 (by omega)
    rw [anyFrom_list ds [] (fun y => !rowV dly y), show (ds.any fun y => !rowV dly y) = !ds.all (rowV dly) from by
      rw [Bool.eq_iff_iff]; simp] at this
    rw [decide_eq_true h, Bool.true_and]
    simpa using this
  · simp only [if_neg h]
    rw [decide_eq_false h]
    exact Ev.now _
theorem refMeet_f {a ta b tb : Int} (ha : -1125899906842624 ≤ a ∧ a ≤ 1125899906842624) (hb : -1125899906842624 ≤ b ∧ b ≤ 1125899906842624) (h1 : 0 ≤ ta ∧ ta ≤ 12144) (h2 : 0 ≤ tb ∧ tb ≤ 12144) : tocsinref08_meet.f a ta b tb = some (meetV a ta b tb) := by
  unfold tocsinref08_meet.f meetV
  rw [w64 (by omega), w64 (by omega)]
  by_cases c : a + ta ≤ b
  · rw [if_pos c, decide_eq_false (show ¬ b < a + ta by omega)]; simp
  · rw [if_neg c, decide_eq_true (show b < a + ta by omega)]
    congr 1
    by_cases c' : b + tb ≤ a
    · rw [decide_eq_true c', decide_eq_false (by omega)]; rfl
    · rw [decide_eq_false c', decide_eq_true (by omega)]; rfl
theorem refTimes_f (e : S40) (hs : spansV cyc dly win prec = true) (hp : -1125899906842624 ≤ e.f2 ∧ e.f2 ≤ 1125899906842624) :
    tocsinref08_Times.f hosts cyc dly win prec ds es ls q e.f0 e.f1 e.f2 e.f3 = some (e.f2 + timeV e.f3 - prec, e.f2 + timeV e.f3 + dly + prec, fwdV dly prec e, fwdV dly prec e + timeV e.f3 - prec, lateV dly prec e) := by
  have hs' := of_decide_eq_true hs
  have ht := time_in e.f3
  unfold tocsinref08_Times.f lateV fwdV
  rw [refTime_f, Option.bind_some]
  generalize timeV e.f3 = t at ht ⊢
  rw [w64 (x := e.f2 + t) (by omega), w64 (x := e.f2 + t + dly) (by omega), w64 (x := e.f2 + t + dly + prec) (by omega), w64 (x := e.f2 + t + dly + prec + prec) (by omega), w64 (x := e.f2 + t + dly + prec + prec + t) (by omega), w64 (x := e.f2 + t + dly + prec + prec + t + dly) (by omega), w64 (x := e.f2 + t - prec) (by omega), w64 (x := e.f2 + t + dly + prec + prec + t - prec) (by omega), w64 (x := e.f2 + t + dly + prec + prec + t + dly + prec) (by omega)]
  have e2 : e.f2 + t + dly + prec + prec = e.f2 + t + dly + 2 * prec := by omega
  rw [e2]
theorem refQuiet_f (hs : spansV cyc dly win prec = true) : tocsinref08_Quiet.f hosts cyc dly win prec ds es ls q = some (quietV dly win prec) := by
  have hs' := of_decide_eq_true hs
  unfold tocsinref08_Quiet.f quietV
  rw [refSpans_f, Option.bind_some, if_pos hs, w64 (x := dly + dly) (by omega), w64 (x := dly + dly + win) (by omega), w64 (x := 4 * prec) (by omega), w64 (by omega)]
  congr 1
  omega
end
end Go.Proofs.Ytbmldeikjfecfaa.Hd
