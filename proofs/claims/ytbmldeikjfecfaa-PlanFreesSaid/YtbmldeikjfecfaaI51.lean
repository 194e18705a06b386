/- A part of the proof of the statement PlanFrees: words, contracts of functions that it reaches, and what they compute. No condition. -/
import Derived.Test.YtbmldeikjfecfaaI45
import Derived.Test.YtbmldeikjfecfaaI50
import Derived.Test.YtbmldeikjfecfaaI01
import Derived.Test.YtbmldeikjfecfaaI04
import Derived.Test.YtbmldeikjfecfaaI05
import Derived.Test.YtbmldeikjfecfaaI30
import Derived.Test.YtbmldeikjfecfaaI40
import Derived.Test.YtbmldeikjfecfaaI41
import Derived.Test.YtbmldeikjfecfaaI44
set_option linter.unusedVariables false
set_option linter.unusedSimpArgs false
namespace Go.Proofs.Ytbmldeikjfecfaa.Hd
open Go.RowKit Go.Proofs.Ytbmldeikjfecfaa.T Go.Proofs.YtbmldeikjfecfaaW.PrintWords Go.Proofs.YtbmldeikjfecfaaW.PrintLast Go.Proofs.YtbmldeikjfecfaaW.PrintMore
section
variable {hosts cyc dly win prec : Int} {A5 : Option Addr} {c5 : Nat} {ds : List (List Int)} {A6 : Option Addr} {c6 : Nat} {es : List S40} {A7 : Option Addr} {c7 : Nat} {ls : List S63} {q : Int}
def Blk (cyc m : Int) (L : List S71) (t : Int) : Prop := ∃ (k : Int) (s : S71), s ∈ L ∧ k * cyc + s.f0 < t + m ∧ t < k * cyc + s.f1
def InC (cyc : Int) (L : List S71) : Prop := ∀ s ∈ L, 0 ≤ s.f0 ∧ s.f0 < s.f1 ∧ s.f1 < cyc
theorem res_in (K : Okc hosts cyc dly win prec ds es ls q) (host : Int) (down : Bool) : InC cyc (resV dly prec es host down) := by
  intro s hs
  unfold resV at hs
  obtain ⟨e, he, rfl⟩ := List.mem_map.1 hs
  have h1 := K.fwd (List.mem_filter.1 he).1
  have h2 := K.span
  have h3 := time_in e.f3
  have h4 : fwdV dly prec e = e.f2 + timeV e.f3 + dly + 2 * prec := rfl
  unfold stretchV
  cases down <;> simp only [if_true, Bool.false_eq_true, if_false] <;> omega
theorem mul_lt {a b c : Int} (hc : 0 < c) (h : a * c < b * c) : a < b := Int.lt_of_mul_lt_mul_right h (by omega)
theorem blk_near {cyc m t k : Int} {s : S71} (hc : 1 ≤ cyc) (ht : 0 ≤ t) (hm : m ≤ cyc) (hs : 0 ≤ s.f0 ∧ s.f0 < s.f1 ∧ s.f1 < cyc) (h1 : k * cyc + s.f0 < t + m) (h2 : t < k * cyc + s.f1) : t / cyc ≤ k ∧ k ≤ t / cyc + 1 := by
  obtain ⟨s1, s2, s3, s4, s5, s6, s7⟩ := split_t ht hc
  have a1 : t / cyc < k + 1 := by
    refine mul_lt (c := cyc) (by omega) ?_
    rw [Int.add_mul, Int.one_mul]
    generalize t / cyc * cyc = X at *
    omega
  have a2 : k < t / cyc + 2 := by
    refine mul_lt (c := cyc) (by omega) ?_
    rw [Int.add_mul]
    generalize t / cyc * cyc = X at *
    omega
  omega
theorem mul_in {cyc k q : Int} (hc : 1 ≤ cyc) (hk : -1 ≤ k) (hq : k ≤ q + 3) : -cyc ≤ k * cyc ∧ k * cyc ≤ q * cyc + 3 * cyc := by
  have h1 : -1 * cyc ≤ k * cyc := Int.mul_le_mul_of_nonneg_right hk (by omega)
  have h2 : k * cyc ≤ (q + 3) * cyc := Int.mul_le_mul_of_nonneg_right hq (by omega)
  rw [Int.add_mul] at h2
  omega
theorem rdS (L : List S71) (i : Nat) : rd_T71 L (i : Int) = L.getD i z71 := by unfold rd_T71; rw [Int.toNat_natCast]
theorem getS {L : List S71} {i : Nat} (h : i < L.length) : L.getD i z71 ∈ L := by rw [List.getD_eq_getElem?_getD, List.getElem?_eq_getElem h]; exact List.getElem_mem _
def MetP (cyc m : Int) (L : List S71) (t : Int) (P : Int → S71 → Prop) (r : Int × Bool) : Prop :=
  (r.2 = true → ∃ (k : Int) (s : S71), s ∈ L ∧ k * cyc + s.f0 < t + m ∧ t < k * cyc + s.f1 ∧ r.1 = k * cyc + s.f1) ∧ (r.2 = false → ∀ k s, P k s → ¬(k * cyc + s.f0 < t + m ∧ t < k * cyc + s.f1))
theorem met_in {L : List S71} {t m : Int} (hc : 1 ≤ cyc ∧ cyc ≤ 1073741824) (ht : 0 ≤ t ∧ t ≤ 2251799813685248) (hm : 1 ≤ m ∧ m ≤ cyc) (hL : InC cyc L) (hn : L.length ≤ 65536) (k : Int) (hk : t / cyc - 1 ≤ k) (hk2 : k ≤ t / cyc + 2)
    (hr : ∃ r, Ev (fun g => plan_met.l0 g L t m (t / cyc - 1) (k + 1) hosts cyc dly win prec ds es ls q) r ∧ MetP cyc m L t (fun k' s => s ∈ L ∧ k + 1 ≤ k' ∧ k' ≤ t / cyc + 2) r) : ∀ (d i : Nat), i + d = L.length →
    ∃ r, Ev (fun g => plan_met.l1 g L t m (t / cyc - 1) k L (L.length : Int) i hosts cyc dly win prec ds es ls q) r ∧ MetP cyc m L t (fun k' s => (k' = k ∧ ∃ j, i ≤ j ∧ j < L.length ∧ s = L.getD j z71) ∨ (s ∈ L ∧ k + 1 ≤ k' ∧ k' ≤ t / cyc + 2)) r := by
  obtain ⟨s1, s2, s3, s4, s5, s6, s7⟩ := split_t ht.1 hc.1
  have hX := mul_in (q := t / cyc) hc.1 (k := k) (by omega) (by omega)
  intro d
  induction d with
  | zero =>
    intro i hi
    obtain ⟨r, hr, h1, h2⟩ := hr
    refine ⟨r, Ev.step (f := fun g => plan_met.l0 g L t m (t / cyc - 1) (k + 1) hosts cyc dly win prec ds es ls q) (fun g => ?_) hr, h1, fun hf k' s hP => ?_⟩
    · rw [plan_met.l1, if_neg (by omega), w64 (by omega)]
    · rcases hP with ⟨_, j, _, _, _⟩ | hP
      · omega
      · exact h2 hf k' s hP
  | succ d ih =>
    intro i hi
    obtain ⟨r, hr, h1, h2⟩ := ih (i + 1) (by omega)
    have hs := hL _ (getS (L := L) (i := i) (by omega))
    have e1 : ∀ g, plan_met.l1 (g + 1) L t m (t / cyc - 1) k L (L.length : Int) i hosts cyc dly win prec ds es ls q = if k * cyc + (L.getD i z71).f0 < t + m then (if t < k * cyc + (L.getD i z71).f1 then some (k * cyc + (L.getD i z71).f1, true) else plan_met.l1 g L t m (t / cyc - 1) k L (L.length : Int) ((i + 1 : Nat) : Int) hosts cyc dly win prec ds es ls q) else plan_met.l1 g L t m (t / cyc - 1) k L (L.length : Int) ((i + 1 : Nat) : Int) hosts cyc dly win prec ds es ls q := by
      intro g
      rw [plan_met.l1, if_pos (by omega), if_pos (by omega), if_pos (by omega), rdS]
      generalize t / cyc * cyc = Y at *
      generalize hXX : k * cyc = X at *
      rw [w64 (x := X) (by omega), w64 (x := X + (L.getD i z71).f0) (by omega), w64 (x := t + m) (by omega), w64 (x := X + (L.getD i z71).f1) (by omega), w64 (x := (i : Int) + 1) (by omega)]
      rfl
    by_cases c : k * cyc + (L.getD i z71).f0 < t + m ∧ t < k * cyc + (L.getD i z71).f1
    · refine ⟨(k * cyc + (L.getD i z71).f1, true), Ev.step (f := fun _ => some (k * cyc + (L.getD i z71).f1, true)) (fun g => by rw [e1, if_pos c.1, if_pos c.2]) (Ev.now _), ⟨fun _ => ⟨k, _, getS (by omega), c.1, c.2, rfl⟩, fun h => Bool.noConfusion h⟩⟩
    · refine ⟨r, Ev.step (f := fun g => plan_met.l1 g L t m (t / cyc - 1) k L (L.length : Int) ((i + 1 : Nat) : Int) hosts cyc dly win prec ds es ls q) (fun g => ?_) hr, h1, fun hf k' s hP => ?_⟩
      · rw [e1]
        by_cases c1 : k * cyc + (L.getD i z71).f0 < t + m
        · rw [if_pos c1, if_neg (fun h => c ⟨c1, h⟩)]
        · rw [if_neg c1]
      · rcases hP with ⟨rfl, j, hj1, hj2, rfl⟩ | hP
        · by_cases e : j = i
          · subst e; exact c
          · exact h2 hf k' _ (.inl ⟨rfl, j, by omega, hj2, rfl⟩)
        · exact h2 hf k' s (.inr hP)
theorem met_out {L : List S71} {t m : Int} (hc : 1 ≤ cyc ∧ cyc ≤ 1073741824) (ht : 0 ≤ t ∧ t ≤ 2251799813685248) (hm : 1 ≤ m ∧ m ≤ cyc) (hL : InC cyc L) (hn : L.length ≤ 65536) : ∀ (d : Nat) (k : Int), t / cyc - 1 ≤ k → k + d = t / cyc + 3 →
    ∃ r, Ev (fun g => plan_met.l0 g L t m (t / cyc - 1) k hosts cyc dly win prec ds es ls q) r ∧ MetP cyc m L t (fun k' s => s ∈ L ∧ k ≤ k' ∧ k' ≤ t / cyc + 2) r := by
  obtain ⟨s1, s2, s3, s4, s5, s6, s7⟩ := split_t ht.1 hc.1
  intro d
  induction d with
  | zero =>
    intro k hk hd
    refine ⟨(0, false), Ev.step (f := fun _ => some (0, false)) (fun g => ?_) (Ev.now _), ⟨fun h => Bool.noConfusion h, fun _ k' s hP => by have := hP.2; omega⟩⟩
    rw [plan_met.l0, w64 (by omega), if_neg (by omega)]
  | succ d ih =>
    intro k hk hd
    obtain ⟨r, hr, h1, h2⟩ := met_in (hosts := hosts) (cyc := cyc) (dly := dly) (win := win) (prec := prec) (ds := ds) (es := es) (ls := ls) (q := q) hc ht hm hL hn k hk (by omega) (ih (k + 1) (by omega) (by omega)) L.length 0 (by omega)
    refine ⟨r, Ev.step (f := fun g => plan_met.l1 g L t m (t / cyc - 1) k L (L.length : Int) ((0 : Nat) : Int) hosts cyc dly win prec ds es ls q) (fun g => ?_) hr, h1, fun hf k' s hP => ?_⟩
    · rw [plan_met.l0, w64 (by omega), if_pos (by omega)]; rfl
    · by_cases e : k' = k
      · subst e
        obtain ⟨j, hj, hjs⟩ := List.mem_iff_getElem.1 hP.1
        exact h2 hf k' s (.inl ⟨rfl, j, Nat.zero_le _, hj, by rw [List.getD_eq_getElem?_getD, List.getElem?_eq_getElem hj, ← hjs]; rfl⟩)
      · exact h2 hf k' s (.inr ⟨hP.1, by omega, hP.2.2⟩)
theorem met_ev {L : List S71} {t m : Int} (hc : 1 ≤ cyc ∧ cyc ≤ 1073741824) (ht : 0 ≤ t ∧ t ≤ 2251799813685248) (hm : 1 ≤ m ∧ m ≤ cyc) (hL : InC cyc L) (hn : L.length ≤ 65536) :
    ∃ r, Ev (fun g => plan_met.f g hosts cyc dly win prec ds es ls q L t m) r ∧ (r.2 = true → ∃ (k : Int) (s : S71), s ∈ L ∧ k * cyc + s.f0 < t + m ∧ t < k * cyc + s.f1 ∧ r.1 = k * cyc + s.f1) ∧ (r.2 = false → ¬ Blk cyc m L t) := by
  obtain ⟨s1, s2, s3, s4, s5, s6, s7⟩ := split_t ht.1 hc.1
  obtain ⟨r, hr, h1, h2⟩ := met_out (hosts := hosts) (cyc := cyc) (dly := dly) (win := win) (prec := prec) (ds := ds) (es := es) (ls := ls) (q := q) hc ht hm hL hn 4 (t / cyc - 1) (by omega) (by omega)
  refine ⟨r, ?_, h1, fun hf ⟨k, s, hs, b1, b2⟩ => ?_⟩
  · unfold plan_met.f
    rw [s6, w64 (x := t / cyc) (by omega), w64 (by omega)]
    simp only [if_neg (show ¬ cyc = 0 by omega)]
    exact hr
  · have := blk_near hc.1 ht.1 hm.2 (hL s hs) b1 b2
    exact h2 hf k s ⟨hs, by omega, by omega⟩ ⟨b1, b2⟩
theorem sort_mem {L : List S71} {s : S71} : s ∈ L.mergeSort (fun x y => decide (x.f0 ≤ y.f0)) ↔ s ∈ L := (List.mergeSort_perm L _).mem_iff
theorem blk_sort {m t : Int} {L : List S71} : Blk cyc m (L.mergeSort (fun x y => decide (x.f0 ≤ y.f0))) t ↔ Blk cyc m L t := by
  unfold Blk
  simp only [sort_mem]
theorem res_short (K : Okc hosts cyc dly win prec ds es ls q) (host : Int) (down : Bool) : ((resV dly prec es host down).mergeSort (fun x y => decide (x.f0 ≤ y.f0))).length ≤ 65536 := by
  have h1 := K.n
  have h2 : (resV dly prec es host down).length ≤ es.length := by unfold resV; rw [List.length_map]; exact List.length_filter_le _ _
  rw [List.length_mergeSort]
  omega
abbrev WireOk (hosts cyc dly win prec : Int) (ds : List (List Int)) (es : List S40) (ls : List S63) (q host t m : Int) : Prop := goodV hosts cyc dly win prec ds es ls q t = true ∧ 0 ≤ host ∧ host < hosts ∧ 1 ≤ m ∧ m ≤ cyc
theorem wire_f (hs : sane hosts cyc dly win prec ds es ls q) (host t m : Int) : plan_wire.f hosts cyc dly win prec ds es ls q host t m = some (decide (WireOk hosts cyc dly win prec ds es ls q host t m)) := by
  unfold plan_wire.f
  rw [good_f hs, Option.bind_some]
  by_cases hg : goodV hosts cyc dly win prec ds es ls q t = true
  · rw [if_pos hg]
    by_cases c1 : host ≥ 0
    · rw [if_pos c1]
      by_cases c2 : host < hosts
      · rw [if_pos c2]
        by_cases c3 : m ≥ 1
        · rw [if_pos c3]
          congr 1
          apply decide_eq_decide.2
          exact ⟨fun h => ⟨hg, c1, c2, c3, h⟩, fun h => h.2.2.2.2⟩
        · rw [if_neg c3, decide_eq_false (fun h => by have := h.2.2.2.1; omega)]
      · rw [if_neg c2, decide_eq_false (fun h => c2 h.2.2.1)]
    · rw [if_neg c1, decide_eq_false (fun h => by have := h.2.1; omega)]
  · rw [if_neg hg, decide_eq_false (fun h => hg h.1)]
theorem refWire_ev (hs : sane hosts cyc dly win prec ds es ls q) (host t m : Int) : Ev (fun k => tocsinref15_Wire.f k hosts cyc dly win prec ds es ls q host t m) (decide (WireOk hosts cyc dly win prec ds es ls q host t m)) := by
  unfold tocsinref15_Wire.f
  refine Ev.bind (refGood_ev hs t) ?_
  by_cases hg : goodV hosts cyc dly win prec ds es ls q t = true
  · simp only [if_pos hg]
    by_cases c1 : host ≥ 0
    · simp only [if_pos c1]
      by_cases c2 : host < hosts
      · simp only [if_pos c2]
        by_cases c3 : m ≥ 1
        · simp only [if_pos c3]
          have : decide (WireOk hosts cyc dly win prec ds es ls q host t m) = decide (m ≤ cyc) := by
            apply decide_eq_decide.2
            exact ⟨fun h => h.2.2.2.2, fun h => ⟨hg, c1, c2, c3, h⟩⟩
          rw [this]
          exact Ev.now _
        · simp only [if_neg c3]; rw [decide_eq_false (fun h => by have := h.2.2.2.1; omega)]; exact Ev.now _
      · simp only [if_neg c2]; rw [decide_eq_false (fun h => c2 h.2.2.1)]; exact Ev.now _
    · simp only [if_neg c1]; rw [decide_eq_false (fun h => by have := h.2.1; omega)]; exact Ev.now _
  · simp only [if_neg hg]; rw [decide_eq_false (fun h => hg h.1)]; exact Ev.now _
theorem reserved_f (hs : sane hosts cyc dly win prec ds es ls q) (hck : checkV hosts cyc dly win prec ds es ls q = 0) (host : Int) (hh : i64 host) (down : Bool) : Hd.plan_reserved.f hosts cyc dly win prec ds es ls q host down = some ((resV dly prec es host down).mergeSort (fun x y => decide (x.f0 ≤ y.f0))) := by
  unfold Hd.plan_reserved.f
  rw [if_pos ⟨hs, hck, hh⟩]
theorem good_zero {t : Int} (h : goodV hosts cyc dly win prec ds es ls q t = true) : checkV hosts cyc dly win prec ds es ls q = 0 := by unfold goodV at h; rw [Bool.and_eq_true, beq_iff_eq] at h; exact h.2
theorem free_ev (hs : sane hosts cyc dly win prec ds es ls q) (host : Int) (hh : i64 host) (down : Bool) (t m : Int) : ∃ b, Ev (fun k => plan_Free.f k hosts cyc dly win prec ds es ls q host down t m) b ∧ (b = true ↔ WireOk hosts cyc dly win prec ds es ls q host t m ∧ ¬ Blk cyc m (resV dly prec es host down) t) := by
  by_cases hw : WireOk hosts cyc dly win prec ds es ls q host t m
  · obtain ⟨ht, K⟩ := good_iff hw.1
    obtain ⟨r, hr, h1, h2⟩ := met_ev (hosts := hosts) (cyc := cyc) (dly := dly) (win := win) (prec := prec) (ds := ds) (es := es) (ls := ls) (q := q) (t := t) K.c (by omega) hw.2.2.2 (L := (resV dly prec es host down).mergeSort (fun x y => decide (x.f0 ≤ y.f0))) (fun s h => res_in K host down s (sort_mem.1 h)) (res_short K host down)
    refine ⟨!r.2, ?_, ?_⟩
    · unfold plan_Free.f
      simp only [wire_f hs, Option.bind_some, decide_eq_true hw, if_true, reserved_f hs (good_zero hw.1) host hh down]
      exact Ev.bind hr (Ev.now _)
    · cases hb : r.2 with
      | true =>
        obtain ⟨k, s, hs', b1, b2, _⟩ := h1 hb
        simp only [Bool.not_true, Bool.false_eq_true, false_iff, not_and, Classical.not_not]
        exact fun _ => ⟨k, s, sort_mem.1 hs', b1, b2⟩
      | false =>
        simp only [Bool.not_false, true_iff]
        exact ⟨hw, fun h => h2 hb (blk_sort.2 h)⟩
  · refine ⟨false, ?_, by simp [hw]⟩
    unfold plan_Free.f
    simp only [wire_f hs, Option.bind_some, decide_eq_false hw, Bool.false_eq_true, if_false]
    exact Ev.now _
def WaitP (cyc m : Int) (L : List S71) (t : Int) (r : Int × Bool) : Prop :=
  (r.2 = true → t ≤ r.1 ∧ r.1 ≤ t + 2 * cyc ∧ ¬ Blk cyc m L r.1 ∧ (∀ x, t ≤ x → x < r.1 → Blk cyc m L x) ∧ (r.1 = t ∨ ∃ k s, s ∈ L ∧ r.1 = k * cyc + s.f1)) ∧ (r.2 = false → r.1 = 0 ∧ ∀ x, t ≤ x → x ≤ t + 2 * cyc → Blk cyc m L x)
theorem wait_loop {L : List S71} {t m : Int} (hc : 1 ≤ cyc ∧ cyc ≤ 1073741824) (ht : 0 ≤ t ∧ t ≤ 1125899906842624) (hm : 1 ≤ m ∧ m ≤ cyc) (hL : InC cyc L) (hn : L.length ≤ 65536) : ∀ (d : Nat) (x : Int), t + 2 * cyc + 1 - x ≤ d → t ≤ x → (∀ y, t ≤ y → y < x → Blk cyc m L y) → (x = t ∨ ∃ k s, s ∈ L ∧ x = k * cyc + s.f1) →
    ∃ r, Ev (fun g => plan_Wait.l0 g t m L x hosts cyc dly win prec ds es ls q) r ∧ WaitP cyc m L t r := by
  intro d
  induction d with
  | zero =>
    intro x hd hx hb he
    refine ⟨(0, false), Ev.step (f := fun _ => some (0, false)) (fun g => ?_) (Ev.now _), ⟨fun h => Bool.noConfusion h, fun _ => ⟨rfl, fun y h1 h2 => hb y h1 (by omega)⟩⟩⟩
    rw [plan_Wait.l0, w64 (x := 2 * cyc) (by omega), w64 (by omega), if_neg (by omega)]
  | succ d ih =>
    intro x hd hx hb he
    by_cases hle : x ≤ t + 2 * cyc
    · obtain ⟨r, hr, h1, h2⟩ := met_ev (hosts := hosts) (cyc := cyc) (dly := dly) (win := win) (prec := prec) (ds := ds) (es := es) (ls := ls) (q := q) (t := x) hc (by omega) hm hL hn
      cases hb2 : r.2 with
      | false =>
        refine ⟨(x, true), Ev.step (f := fun g => (plan_met.f g hosts cyc dly win prec ds es ls q L x m).bind fun bt265 => (if bt265.2 = true then (plan_Wait.l0 g t m L bt265.1 hosts cyc dly win prec ds es ls q) else (some (x, true)))) (fun g => ?_) (Ev.bind hr (by simp only [hb2, Bool.false_eq_true, if_false]; exact Ev.now _)), ⟨fun _ => ⟨hx, hle, h2 hb2, hb, he⟩, fun h => Bool.noConfusion h⟩⟩
        rw [plan_Wait.l0, w64 (x := 2 * cyc) (by omega), w64 (by omega), if_pos hle]
      | true =>
        obtain ⟨k, s, hs, b1, b2, b3⟩ := h1 hb2
        have hgt : x < r.1 := by omega
        obtain ⟨r', hr', hP⟩ := ih r.1 (by omega) (by omega) (fun y y1 y2 => by
          by_cases hyx : y < x
          · exact hb y y1 hyx
          · exact ⟨k, s, hs, by omega, by omega⟩) (.inr ⟨k, s, hs, b3⟩)
        refine ⟨r', Ev.step (f := fun g => (plan_met.f g hosts cyc dly win prec ds es ls q L x m).bind fun bt265 => (if bt265.2 = true then (plan_Wait.l0 g t m L bt265.1 hosts cyc dly win prec ds es ls q) else (some (x, true)))) (fun g => ?_) (Ev.bind hr (by simp only [hb2, if_true]; exact hr')), hP⟩
        rw [plan_Wait.l0, w64 (x := 2 * cyc) (by omega), w64 (by omega), if_pos hle]
    · exact ⟨(0, false), Ev.step (f := fun _ => some (0, false)) (fun g => by rw [plan_Wait.l0, w64 (x := 2 * cyc) (by omega), w64 (by omega), if_neg hle]) (Ev.now _), ⟨fun h => Bool.noConfusion h, fun _ => ⟨rfl, fun y h1 h2 => hb y h1 (by omega)⟩⟩⟩
theorem wait_ev (hs : sane hosts cyc dly win prec ds es ls q) (host : Int) (hh : i64 host) (down : Bool) (t m : Int) : ∃ r, Ev (fun k => plan_Wait.f k hosts cyc dly win prec ds es ls q host down t m) r ∧ (¬ WireOk hosts cyc dly win prec ds es ls q host t m → r = (0, false)) ∧ (WireOk hosts cyc dly win prec ds es ls q host t m → WaitP cyc m (resV dly prec es host down) t r) := by
  by_cases hw : WireOk hosts cyc dly win prec ds es ls q host t m
  · obtain ⟨ht, K⟩ := good_iff hw.1
    obtain ⟨r, hr, h1, h2⟩ := wait_loop (hosts := hosts) (cyc := cyc) (dly := dly) (win := win) (prec := prec) (ds := ds) (es := es) (ls := ls) (q := q) (t := t) K.c ht hw.2.2.2 (L := (resV dly prec es host down).mergeSort (fun x y => decide (x.f0 ≤ y.f0))) (fun s h => res_in K host down s (sort_mem.1 h)) (res_short K host down) (t + 2 * cyc + 1 - t).toNat t (by omega) (by omega) (fun y h1 h2 => by omega) (.inl rfl)
    refine ⟨r, ?_, fun h => absurd hw h, fun _ => ⟨fun h => ?_, fun h => ?_⟩⟩
    · unfold plan_Wait.f
      simp only [wire_f hs, Option.bind_some, decide_eq_true hw, if_true, reserved_f hs (good_zero hw.1) host hh down]
      exact hr
    · obtain ⟨a1, a2, a3, a4, a5⟩ := h1 h
      refine ⟨a1, a2, fun h => a3 (blk_sort.2 h), fun x x1 x2 => blk_sort.1 (a4 x x1 x2), ?_⟩
      rcases a5 with a5 | ⟨k, s, hs, a5⟩
      · exact .inl a5
      · exact .inr ⟨k, s, sort_mem.1 hs, a5⟩
    · exact ⟨(h2 h).1, fun x x1 x2 => blk_sort.1 ((h2 h).2 x x1 x2)⟩
  · refine ⟨(0, false), ?_, fun _ => rfl, fun h => absurd h hw⟩
    unfold plan_Wait.f
    simp only [wire_f hs, Option.bind_some, decide_eq_false hw, Bool.false_eq_true, if_false]
    exact Ev.now _
end
end Go.Proofs.Ytbmldeikjfecfaa.Hd
