/- A part of the proof of the statement PlanFrees: words, contracts of functions that it reaches, and what they compute. No condition. -/
import Derived.Test.YtbmldeikjfecfaaI51
set_option linter.unusedVariables false
set_option linter.unusedSimpArgs false
namespace Go.Proofs.Ytbmldeikjfecfaa.Hd
open Go.RowKit Go.Proofs.Ytbmldeikjfecfaa.T Go.Proofs.YtbmldeikjfecfaaW.PrintWords Go.Proofs.YtbmldeikjfecfaaW.PrintLast Go.Proofs.YtbmldeikjfecfaaW.PrintMore
section
variable {hosts cyc dly win prec : Int} {A5 : Option Addr} {c5 : Nat} {ds : List (List Int)} {A6 : Option Addr} {c6 : Nat} {es : List S40} {A7 : Option Addr} {c7 : Nat} {ls : List S63} {q : Int}
def RFreeP (cyc m t : Int) (P : Int → S71 → Prop) (b : Bool) : Prop := (b = false → ∃ (k : Int) (s : S71), P k s ∧ k * cyc + s.f0 < t + m ∧ t < k * cyc + s.f1) ∧ (b = true → ∀ k s, P k s → ¬(k * cyc + s.f0 < t + m ∧ t < k * cyc + s.f1))
def OnI (dly prec : Int) (es : List S40) (host : Int) (down : Bool) (lo hi : Int) (i : Nat) (k : Int) (s : S71) : Prop := lo ≤ k ∧ k ≤ hi ∧ ∃ j, i ≤ j ∧ j < es.length ∧ onWire host down (es.getD j z40) = true ∧ s = stretchV dly prec down (es.getD j z40)
theorem OnI.next {lo hi : Int} {host : Int} {down : Bool} {i : Nat} {k : Int} {s : S71} : OnI dly prec es host down lo hi i k s → (lo ≤ k ∧ k ≤ hi ∧ i < es.length ∧ onWire host down (es.getD i z40) = true ∧ s = stretchV dly prec down (es.getD i z40)) ∨ OnI dly prec es host down lo hi (i + 1) k s := by
  rintro ⟨h1, h2, j, h3, h4, h5, h6⟩
  by_cases e : j = i
  · subst e; exact .inl ⟨h1, h2, h4, h5, h6⟩
  · exact .inr ⟨h1, h2, j, by omega, h4, h5, h6⟩
theorem OnI.later {lo hi : Int} {host : Int} {down : Bool} {i : Nat} {k : Int} {s : S71} (h : OnI dly prec es host down lo hi (i + 1) k s) : OnI dly prec es host down lo hi i k s := by
  obtain ⟨h1, h2, j, h3, h4, h5, h6⟩ := h
  exact ⟨h1, h2, j, by omega, h4, h5, h6⟩
theorem stretch_is (K : Okc hosts cyc dly win prec ds es ls q) {e : S40} (he : e ∈ es) (down : Bool) : 0 ≤ (stretchV dly prec down e).f0 ∧ (stretchV dly prec down e).f1 = (stretchV dly prec down e).f0 + timeV e.f3 ∧ (stretchV dly prec down e).f1 < cyc := by
  have h1 := K.fwd he
  have h2 := K.span
  have h3 := time_in e.f3
  have h4 : fwdV dly prec e = e.f2 + timeV e.f3 + dly + 2 * prec := rfl
  cases down with
  | true => exact ⟨by show 0 ≤ fwdV dly prec e; omega, rfl, by show fwdV dly prec e + timeV e.f3 < cyc; omega⟩
  | false => exact ⟨by show 0 ≤ e.f2; omega, rfl, by show e.f2 + timeV e.f3 < cyc; omega⟩
theorem refFree_k (K : Okc hosts cyc dly win prec ds es ls q) {t m host : Int} {down : Bool} (ht : 0 ≤ t ∧ t ≤ 2251799813685248) (hm : 1 ≤ m ∧ m ≤ cyc) (i : Nat) (hi : i < es.length) (hw : onWire host down (es.getD i z40) = true)
    (hr : ∃ b, Ev (fun g => tocsinref15_free.l0 g host down t m ((i + 1 : Nat) : Int) hosts cyc dly win prec ds es ls q) b ∧ RFreeP cyc m t (OnI dly prec es host down (t / cyc - 1) (t / cyc + 2) (i + 1)) b) : ∀ (d : Nat) (k : Int), t / cyc - 1 ≤ k → k + d = t / cyc + 3 →
    ∃ b, Ev (fun g => tocsinref15_free.l1 g host down t m i (stretchV dly prec down (es.getD i z40)).f0 k hosts cyc dly win prec ds es ls q (es.getD i z40).f0 (es.getD i z40).f1 (es.getD i z40).f2 (es.getD i z40).f3) b ∧
      RFreeP cyc m t (fun k' s => (k ≤ k' ∧ k' ≤ t / cyc + 2 ∧ s = stretchV dly prec down (es.getD i z40)) ∨ OnI dly prec es host down (t / cyc - 1) (t / cyc + 2) (i + 1) k' s) b := by
  obtain ⟨s1, s2, s3, s4, s5, s6, s7⟩ := split_t ht.1 K.c.1
  have hc := K.c
  have hn := K.n
  obtain ⟨v1, v2, v3⟩ := stretch_is K (getE hi) down
  have hti := time_in (es.getD i z40).f3
  intro d
  induction d with
  | zero =>
    intro k hk hd
    obtain ⟨b, hb, h1, h2⟩ := hr
    refine ⟨b, Ev.step (f := fun g => tocsinref15_free.l0 g host down t m ((i + 1 : Nat) : Int) hosts cyc dly win prec ds es ls q) (fun g => ?_) hb, ⟨fun hf => ?_, fun hf k' s hP => ?_⟩⟩
    · rw [tocsinref15_free.l1, if_neg (by omega), s6, w64 (x := t / cyc) (by omega), w64 (x := t / cyc + 2) (by omega), if_neg (by omega), w64 (by omega)]; rfl
    · obtain ⟨k', s, hP, hh⟩ := h1 hf
      exact ⟨k', s, .inr hP, hh⟩
    · rcases hP with hP | hP
      · have := hP.1; have := hP.2.1; omega
      · exact h2 hf k' s hP
  | succ d ih =>
    intro k hk hd
    obtain ⟨b, hb, h1, h2⟩ := ih (k + 1) (by omega) (by omega)
    have hX := mul_in (q := t / cyc) hc.1 (k := k) (by omega) (by omega)
    have e1 : ∀ g, tocsinref15_free.l1 (g + 1) host down t m i (stretchV dly prec down (es.getD i z40)).f0 k hosts cyc dly win prec ds es ls q (es.getD i z40).f0 (es.getD i z40).f1 (es.getD i z40).f2 (es.getD i z40).f3 =
        if k * cyc + (stretchV dly prec down (es.getD i z40)).f0 < t + m then (if k * cyc + (stretchV dly prec down (es.getD i z40)).f1 > t then some false else tocsinref15_free.l1 g host down t m i (stretchV dly prec down (es.getD i z40)).f0 (k + 1) hosts cyc dly win prec ds es ls q (es.getD i z40).f0 (es.getD i z40).f1 (es.getD i z40).f2 (es.getD i z40).f3)
        else tocsinref15_free.l1 g host down t m i (stretchV dly prec down (es.getD i z40)).f0 (k + 1) hosts cyc dly win prec ds es ls q (es.getD i z40).f0 (es.getD i z40).f1 (es.getD i z40).f2 (es.getD i z40).f3 := by
      intro g
      rw [tocsinref15_free.l1, if_neg (by omega), s6, w64 (x := t / cyc) (by omega), w64 (x := t / cyc + 2) (by omega), if_pos (by omega), refTime_f, Option.bind_some, v2]
      generalize (stretchV dly prec down (es.getD i z40)).f0 = f0 at *
      generalize timeV (es.getD i z40).f3 = tm at *
      generalize t / cyc * cyc = Y at *
      generalize k * cyc = X at *
      rw [w64 (x := X) (by omega), w64 (x := X + f0) (by omega), w64 (x := t + m) (by omega), w64 (x := X + f0 + tm) (by omega), w64 (x := k + 1) (by omega)]
      rw [show X + (f0 + tm) = X + f0 + tm by omega]
    by_cases c : k * cyc + (stretchV dly prec down (es.getD i z40)).f0 < t + m ∧ t < k * cyc + (stretchV dly prec down (es.getD i z40)).f1
    · exact ⟨false, Ev.step (f := fun _ => some false) (fun g => by rw [e1, if_pos c.1, if_pos c.2]) (Ev.now _), ⟨fun _ => ⟨k, _, .inl ⟨Int.le_refl _, by omega, rfl⟩, c⟩, fun h => Bool.noConfusion h⟩⟩
    · refine ⟨b, Ev.step (f := fun g => tocsinref15_free.l1 g host down t m i (stretchV dly prec down (es.getD i z40)).f0 (k + 1) hosts cyc dly win prec ds es ls q (es.getD i z40).f0 (es.getD i z40).f1 (es.getD i z40).f2 (es.getD i z40).f3) (fun g => ?_) hb, ⟨fun hf => ?_, fun hf k' s hP => ?_⟩⟩
      · rw [e1]
        by_cases c1 : k * cyc + (stretchV dly prec down (es.getD i z40)).f0 < t + m
        · rw [if_pos c1, if_neg (fun h => c ⟨c1, h⟩)]
        · rw [if_neg c1]
      · obtain ⟨k', s, hP, hh⟩ := h1 hf
        refine ⟨k', s, ?_, hh⟩
        rcases hP with hP | hP
        · exact .inl ⟨by omega, hP.2.1, hP.2.2⟩
        · exact .inr hP
      · rcases hP with hP | hP
        · by_cases e : k' = k
          · subst e; rw [hP.2.2]; exact c
          · exact h2 hf k' s (.inl ⟨by omega, hP.2.1, hP.2.2⟩)
        · exact h2 hf k' s (.inr hP)
theorem refFree_i (K : Okc hosts cyc dly win prec ds es ls q) (ho : ∀ e ∈ es, okE e) {t m host : Int} {down : Bool} (ht : 0 ≤ t ∧ t ≤ 2251799813685248) (hm : 1 ≤ m ∧ m ≤ cyc) : ∀ (d i : Nat), i + d = es.length →
    ∃ b, Ev (fun g => tocsinref15_free.l0 g host down t m i hosts cyc dly win prec ds es ls q) b ∧ RFreeP cyc m t (OnI dly prec es host down (t / cyc - 1) (t / cyc + 2) i) b := by
  obtain ⟨s1, s2, s3, s4, s5, s6, s7⟩ := split_t ht.1 K.c.1
  have hc := K.c
  have hn := K.n
  intro d
  induction d with
  | zero =>
    intro i hi
    exact ⟨true, Ev.step (f := fun _ => some true) (fun g => by rw [tocsinref15_free.l0, if_neg (by omega)]) (Ev.now _), ⟨fun h => Bool.noConfusion h, fun _ k s hP => by obtain ⟨_, _, j, h3, h4, _⟩ := hP; omega⟩⟩
  | succ d ih =>
    intro i hi
    have hm' := getE (l := es) (i := i) (by omega)
    have hf := K.fwd hm'
    have hf2 := K.times hm'
    have hr := ih (i + 1) (by omega)
    have hj2 : ∀ b, Ev (fun g => tocsinref15_free.j2 g host down t m i (stretchV dly prec down (es.getD i z40)).f0 (!onWire host down (es.getD i z40)) hosts cyc dly win prec ds es ls q (es.getD i z40).f0 (es.getD i z40).f1 (es.getD i z40).f2 (es.getD i z40).f3) b → Ev (fun g => tocsinref15_free.l0 g host down t m i hosts cyc dly win prec ds es ls q) b := by
      intro b hb
      have hj1 : Ev (fun g => tocsinref15_free.j1 g host down t m i (stretchV dly prec down (es.getD i z40)).f0 hosts cyc dly win prec ds es ls q (es.getD i z40).f0 (es.getD i z40).f1 (es.getD i z40).f2 (es.getD i z40).f3) b := by
        cases down with
        | false =>
          refine Ev.step (f := fun g => tocsinref15_free.j2 g host false t m i (stretchV dly prec false (es.getD i z40)).f0 ((es.getD i z40).f0 != host) hosts cyc dly win prec ds es ls q (es.getD i z40).f0 (es.getD i z40).f1 (es.getD i z40).f2 (es.getD i z40).f3) (fun g => by rw [tocsinref15_free.j1, if_neg (by decide)]) ?_
          have : ((es.getD i z40).f0 != host) = !onWire host false (es.getD i z40) := by
            unfold onWire
            rw [if_neg (by decide), bne, Bool.beq_eq_decide_eq]
          rw [this]
          exact hb
        | true =>
          refine Ev.step (f := fun g => (tocsinref07_Has.f g (es.getD i z40).f1 host).bind fun t352 => (if t352 = true then (tocsinref15_free.j2 g host true t m i (stretchV dly prec true (es.getD i z40)).f0 false hosts cyc dly win prec ds es ls q (es.getD i z40).f0 (es.getD i z40).f1 (es.getD i z40).f2 (es.getD i z40).f3) else (tocsinref15_free.j2 g host true t m i (stretchV dly prec true (es.getD i z40)).f0 true hosts cyc dly win prec ds es ls q (es.getD i z40).f0 (es.getD i z40).f1 (es.getD i z40).f2 (es.getD i z40).f3))) (fun g => by rw [tocsinref15_free.j1, if_pos rfl]) ?_
          refine Ev.bind (refHas_ev _ host (ho _ hm').2.1) ?_
          have : onWire host true (es.getD i z40) = hasV (es.getD i z40).f1 host := rfl
          rw [this] at hb
          cases hh : hasV (es.getD i z40).f1 host with
          | true => rw [hh] at hb; simp only [if_true]; exact hb
          | false => rw [hh] at hb; simp only [Bool.false_eq_true, if_false]; exact hb
      refine Ev.step (f := fun g => tocsinref15_free.j1 g host down t m i (stretchV dly prec down (es.getD i z40)).f0 hosts cyc dly win prec ds es ls q (es.getD i z40).f0 (es.getD i z40).f1 (es.getD i z40).f2 (es.getD i z40).f3) (fun g => ?_) hj1
      rw [tocsinref15_free.l0, if_pos (by omega), if_pos (by omega), rdE]
      cases down with
      | false => rw [if_neg (by decide)]; rfl
      | true => rw [if_pos rfl, refTimes_f _ K.s (by omega), Option.bind_some]; rfl
    cases hw : onWire host down (es.getD i z40) with
    | false =>
      obtain ⟨b, hb, h1, h2⟩ := hr
      refine ⟨b, hj2 b ?_, ⟨fun hf => ?_, fun hf k' s hP => ?_⟩⟩
      · rw [hw]
        exact Ev.step (f := fun g => tocsinref15_free.l0 g host down t m ((i + 1 : Nat) : Int) hosts cyc dly win prec ds es ls q) (fun g => by rw [tocsinref15_free.j2, if_pos (by decide), w64 (by omega)]; rfl) hb
      · obtain ⟨k', s, hP, hh⟩ := h1 hf
        exact ⟨k', s, hP.later, hh⟩
      · rcases hP.next with hP | hP
        · rw [hP.2.2.2.1] at hw; cases hw
        · exact h2 hf k' s hP
    | true =>
      obtain ⟨b, hb, h1, h2⟩ := refFree_k K ht hm i (by omega) hw hr 4 (t / cyc - 1) (by omega) (by omega)
      refine ⟨b, hj2 b ?_, ⟨fun hf => ?_, fun hf k' s hP => ?_⟩⟩
      · rw [hw]
        exact Ev.step (f := fun g => tocsinref15_free.l1 g host down t m i (stretchV dly prec down (es.getD i z40)).f0 (t / cyc - 1) hosts cyc dly win prec ds es ls q (es.getD i z40).f0 (es.getD i z40).f1 (es.getD i z40).f2 (es.getD i z40).f3) (fun g => by rw [tocsinref15_free.j2, if_neg (by decide), if_neg (by omega), s6, w64 (x := t / cyc) (by omega), w64 (by omega)]) hb
      · obtain ⟨k', s, hP, hh⟩ := h1 hf
        rcases hP with hP | hP
        · exact ⟨k', s, ⟨hP.1, hP.2.1, i, Nat.le_refl _, by omega, hw, hP.2.2⟩, hh⟩
        · exact ⟨k', s, hP.later, hh⟩
      · rcases hP.next with hP | hP
        · exact h2 hf k' s (.inl ⟨hP.1, hP.2.1, hP.2.2.2.2⟩)
        · exact h2 hf k' s (.inr hP)
theorem res_get {host : Int} {down : Bool} {s : S71} : s ∈ resV dly prec es host down ↔ ∃ j, j < es.length ∧ onWire host down (es.getD j z40) = true ∧ s = stretchV dly prec down (es.getD j z40) := by
  unfold resV
  rw [List.mem_map]
  constructor
  · rintro ⟨e, he, rfl⟩
    obtain ⟨h1, h2⟩ := List.mem_filter.1 he
    obtain ⟨j, hj, rfl⟩ := List.mem_iff_getElem.1 h1
    have : es.getD j z40 = es[j] := by rw [List.getD_eq_getElem?_getD, List.getElem?_eq_getElem hj]; rfl
    exact ⟨j, hj, by rw [this]; exact h2, by rw [this]⟩
  · rintro ⟨j, hj, h1, rfl⟩
    exact ⟨es.getD j z40, List.mem_filter.2 ⟨getE hj, h1⟩, rfl⟩
theorem refFree_ev (K : Okc hosts cyc dly win prec ds es ls q) (ho : ∀ e ∈ es, okE e) {t m : Int} (host : Int) (down : Bool) (ht : 0 ≤ t ∧ t ≤ 2251799813685248) (hm : 1 ≤ m ∧ m ≤ cyc) : ∃ b, Ev (fun g => tocsinref15_free.f g hosts cyc dly win prec ds es ls q host down t m) b ∧ (b = true ↔ ¬ Blk cyc m (resV dly prec es host down) t) := by
  obtain ⟨b, hb, h1, h2⟩ := refFree_i (host := host) (down := down) K ho ht hm es.length 0 (by omega)
  refine ⟨b, hb, ?_⟩
  constructor
  · rintro hbt ⟨k, s, hs, b1, b2⟩
    obtain ⟨j, hj, hw, hst⟩ := res_get.1 hs
    have := blk_near K.c.1 ht.1 hm.2 (res_in K host down s hs) b1 b2
    exact h2 hbt k s ⟨by omega, by omega, j, Nat.zero_le _, hj, hw, hst⟩ ⟨b1, b2⟩
  · intro hn
    cases b with
    | true => rfl
    | false =>
      obtain ⟨k, s, ⟨_, _, j, _, hj, hw, hst⟩, b1, b2⟩ := h1 rfl
      exact absurd ⟨k, s, res_get.2 ⟨j, hj, hw, hst⟩, b1, b2⟩ hn
theorem refFree_all (hs : sane hosts cyc dly win prec ds es ls q) (host : Int) (down : Bool) (t m : Int) : ∃ b, Ev (fun k => tocsinref15_Free.f k hosts cyc dly win prec ds es ls q host down t m) b ∧ (b = true ↔ WireOk hosts cyc dly win prec ds es ls q host t m ∧ ¬ Blk cyc m (resV dly prec es host down) t) := by
  by_cases hw : WireOk hosts cyc dly win prec ds es ls q host t m
  · obtain ⟨ht, K⟩ := good_iff hw.1
    obtain ⟨b, hb, hi⟩ := refFree_ev K hs.2.2.2.2.2.2.2.1 host down (t := t) (by omega) hw.2.2.2
    refine ⟨b, ?_, by rw [hi]; exact ⟨fun h => ⟨hw, h⟩, fun h => h.2⟩⟩
    unfold tocsinref15_Free.f
    refine Ev.bind (refWire_ev hs host t m) ?_
    simp only [decide_eq_true hw, if_true]
    exact Ev.bind hb (Ev.now _)
  · refine ⟨false, ?_, by simp [hw]⟩
    unfold tocsinref15_Free.f
    refine Ev.bind (refWire_ev hs host t m) ?_
    simp only [decide_eq_false hw, Bool.false_eq_true, if_false]
    exact Ev.now _
structure Imp (C : Int → Prop) (b : Int) (f : Bool) (r : Int × Bool) : Prop where
  up : f = true → r.2 = true ∧ r.1 ≤ b
  all : ∀ x, C x → r.2 = true ∧ r.1 ≤ x
  src : (r.1 = b ∧ r.2 = f) ∨ (r.2 = true ∧ C r.1)
theorem Imp.none {C : Int → Prop} {b : Int} {f : Bool} (h : ∀ x, ¬ C x) : Imp C b f (b, f) := ⟨fun h => ⟨h, Int.le_refl _⟩, fun x hx => absurd hx (h x), .inl ⟨rfl, rfl⟩⟩
theorem Imp.same {C C' : Int → Prop} {b : Int} {f : Bool} {r : Int × Bool} (h : Imp C b f r) (e : ∀ x, C' x ↔ C x) : Imp C' b f r := ⟨h.up, fun x hx => h.all x ((e x).1 hx), h.src.imp id fun h' => ⟨h'.1, (e _).2 h'.2⟩⟩
theorem Imp.skip {C C' : Int → Prop} {b y : Int} {f : Bool} {r : Int × Bool} (h : Imp C b f r) (hf : f = true) (hy : b ≤ y) (e : ∀ x, C' x ↔ (x = y ∨ C x)) : Imp C' b f r :=
  ⟨h.up, fun x hx => by
    rcases (e x).1 hx with rfl | hx
    · exact ⟨(h.up hf).1, Int.le_trans (h.up hf).2 hy⟩
    · exact h.all x hx, h.src.imp id fun h' => ⟨h'.1, (e _).2 (.inr h'.2)⟩⟩
theorem Imp.take {C C' : Int → Prop} {b y : Int} {f : Bool} {r : Int × Bool} (h : Imp C y true r) (hb : f = true → y ≤ b) (e : ∀ x, C' x ↔ (x = y ∨ C x)) : Imp C' b f r :=
  ⟨fun hf => ⟨(h.up rfl).1, Int.le_trans (h.up rfl).2 (hb hf)⟩, fun x hx => by
    rcases (e x).1 hx with rfl | hx
    · exact h.up rfl
    · exact h.all x hx, .inr ⟨(h.up rfl).1, by
    rcases h.src with h' | h'
    · exact (e _).2 (.inl h'.1)
    · exact (e _).2 (.inr h'.2)⟩⟩
def OkT (cyc m : Int) (L : List S71) (t x : Int) : Prop := t ≤ x ∧ x ≤ t + 2 * cyc ∧ ¬ Blk cyc m L x
def CandI (cyc dly prec : Int) (es : List S40) (down : Bool) (m : Int) (L : List S71) (t : Int) (i : Nat) (x : Int) : Prop := ∃ j, i ≤ j ∧ j < es.length ∧ ∃ k, t / cyc - 1 ≤ k ∧ k ≤ t / cyc + 3 ∧ x = k * cyc + (stretchV dly prec down (es.getD j z40)).f1 ∧ OkT cyc m L t x
def CandK (cyc dly prec : Int) (es : List S40) (down : Bool) (m : Int) (L : List S71) (t : Int) (i : Nat) (k0 x : Int) : Prop := (∃ k, k0 ≤ k ∧ k ≤ t / cyc + 3 ∧ x = k * cyc + (stretchV dly prec down (es.getD i z40)).f1 ∧ OkT cyc m L t x) ∨ CandI cyc dly prec es down m L t (i + 1) x
theorem refWait_k (K : Okc hosts cyc dly win prec ds es ls q) (ho : ∀ e ∈ es, okE e) {t m host : Int} {down : Bool} (ht : 0 ≤ t ∧ t ≤ 1125899906842624) (hm : 1 ≤ m ∧ m ≤ cyc) (i : Nat) (hi : i < es.length)
    (hr : ∀ b f, ∃ r, Ev (fun g => tocsinref15_Wait.l0 g host down t m b f ((i + 1 : Nat) : Int) hosts cyc dly win prec ds es ls q) r ∧ Imp (CandI cyc dly prec es down m (resV dly prec es host down) t (i + 1)) b f r) : ∀ (d : Nat) (k : Int) (b : Int) (f : Bool), t / cyc - 1 ≤ k → k + d = t / cyc + 4 →
    ∃ r, Ev (fun g => tocsinref15_Wait.l1 g host down t m b f i (stretchV dly prec down (es.getD i z40)).f1 k hosts cyc dly win prec ds es ls q) r ∧ Imp (CandK cyc dly prec es down m (resV dly prec es host down) t i k) b f r := by
  obtain ⟨s1, s2, s3, s4, s5, s6, s7⟩ := split_t ht.1 K.c.1
  have hc := K.c
  have hn := K.n
  obtain ⟨v1, v2, v3⟩ := stretch_is K (getE hi) down
  have hti := time_in (es.getD i z40).f3
  intro d
  induction d with
  | zero =>
    intro k b f hk hd
    obtain ⟨r, hr, hI⟩ := hr b f
    refine ⟨r, Ev.step (f := fun g => tocsinref15_Wait.l0 g host down t m b f ((i + 1 : Nat) : Int) hosts cyc dly win prec ds es ls q) (fun g => ?_) hr, hI.same fun x => ⟨fun h => ?_, fun h => .inr h⟩⟩
    · rw [tocsinref15_Wait.l1, if_neg (by omega), s6, w64 (x := t / cyc) (by omega), w64 (x := t / cyc + 3) (by omega), if_neg (by omega), w64 (by omega)]; rfl
    · rcases h with ⟨k', h1, h2, _⟩ | h
      · omega
      · exact h
  | succ d ih =>
    intro k b f hk hd
    have hX := mul_in (q := t / cyc) hc.1 (k := k) (by omega) (by omega)
    obtain ⟨y, hy⟩ : ∃ y, y = k * cyc + (stretchV dly prec down (es.getD i z40)).f1 := ⟨_, rfl⟩
    have hyb : -1073741824 ≤ y ∧ y ≤ 1125899906842624 + 4294967296 := by
      rw [hy]
      generalize t / cyc * cyc = Y at *
      generalize k * cyc = X at *
      omega
    have split : ∀ x, CandK cyc dly prec es down m (resV dly prec es host down) t i k x ↔ ((x = y ∧ OkT cyc m (resV dly prec es host down) t y) ∨ CandK cyc dly prec es down m (resV dly prec es host down) t i (k + 1) x) := by
      intro x
      constructor
      · rintro (⟨k', h1, h2, h3, h4⟩ | h)
        · by_cases e : k' = k
          · subst e
            rw [← hy] at h3
            subst h3
            exact .inl ⟨rfl, h4⟩
          · exact .inr (.inl ⟨k', by omega, h2, h3, h4⟩)
        · exact .inr (.inr h)
      · rintro (⟨h1, h2⟩ | ⟨k', h1, h2, h3, h4⟩ | h)
        · subst h1
          exact .inl ⟨k, Int.le_refl _, by omega, hy, h2⟩
        · exact .inl ⟨k', by omega, h2, h3, h4⟩
        · exact .inr h
    have e1 : ∀ g, tocsinref15_Wait.l1 (g + 1) host down t m b f i (stretchV dly prec down (es.getD i z40)).f1 k hosts cyc dly win prec ds es ls q = (if y ≥ t then (if y ≤ t + 2 * cyc then (if f = true then (if y < b then ((tocsinref15_free.f g hosts cyc dly win prec ds es ls q host down y m).bind fun t371 => (if t371 = true then (tocsinref15_Wait.l1 g host down t m y true i (stretchV dly prec down (es.getD i z40)).f1 (k + 1) hosts cyc dly win prec ds es ls q) else (tocsinref15_Wait.l1 g host down t m b f i (stretchV dly prec down (es.getD i z40)).f1 (k + 1) hosts cyc dly win prec ds es ls q))) else (tocsinref15_Wait.l1 g host down t m b f i (stretchV dly prec down (es.getD i z40)).f1 (k + 1) hosts cyc dly win prec ds es ls q)) else ((tocsinref15_free.f g hosts cyc dly win prec ds es ls q host down y m).bind fun t372 => (if t372 = true then (tocsinref15_Wait.l1 g host down t m y true i (stretchV dly prec down (es.getD i z40)).f1 (k + 1) hosts cyc dly win prec ds es ls q) else (tocsinref15_Wait.l1 g host down t m b f i (stretchV dly prec down (es.getD i z40)).f1 (k + 1) hosts cyc dly win prec ds es ls q)))) else (tocsinref15_Wait.l1 g host down t m b f i (stretchV dly prec down (es.getD i z40)).f1 (k + 1) hosts cyc dly win prec ds es ls q)) else (tocsinref15_Wait.l1 g host down t m b f i (stretchV dly prec down (es.getD i z40)).f1 (k + 1) hosts cyc dly win prec ds es ls q)) := by
      intro g
      have w1 : wrap64 (wrap64 (k * cyc) + (stretchV dly prec down (es.getD i z40)).f1) = y := by
        rw [w64 (x := k * cyc) (by generalize t / cyc * cyc = Y at *; generalize k * cyc = X at *; omega), ← hy, w64 (by omega)]
      rw [tocsinref15_Wait.l1, if_neg (by omega), s6, w64 (x := t / cyc) (by omega), w64 (x := t / cyc + 3) (by omega), if_pos (by omega), w1, w64 (x := 2 * cyc) (by omega), w64 (x := t + 2 * cyc) (by omega), w64 (x := k + 1) (by omega)]
    obtain ⟨r0, hr0, hI0⟩ := ih (k + 1) b f (by omega) (by omega)
    by_cases c1 : y ≥ t
    · by_cases c2 : y ≤ t + 2 * cyc
      · obtain ⟨fb, hfb, hfi⟩ := refFree_ev K ho host down (t := y) (m := m) (by omega) hm
        have no : fb = false → ∀ x, CandK cyc dly prec es down m (resV dly prec es host down) t i k x ↔ CandK cyc dly prec es down m (resV dly prec es host down) t i (k + 1) x := by
          intro hf x
          rw [split]
          constructor
          · rintro (⟨_, h⟩ | h)
            · have := hfi.2 h.2.2; rw [hf] at this; cases this
            · exact h
          · exact .inr
        have yes : fb = true → ∀ x, CandK cyc dly prec es down m (resV dly prec es host down) t i k x ↔ (x = y ∨ CandK cyc dly prec es down m (resV dly prec es host down) t i (k + 1) x) := by
          intro hf x
          rw [split]
          constructor
          · rintro (⟨h, _⟩ | h)
            · exact .inl h
            · exact .inr h
          · rintro (h | h)
            · exact .inl ⟨h, c1, c2, hfi.1 hf⟩
            · exact .inr h
        by_cases hlt : f = true ∧ ¬ y < b
        · refine ⟨r0, Ev.step (f := fun g => tocsinref15_Wait.l1 g host down t m b f i (stretchV dly prec down (es.getD i z40)).f1 (k + 1) hosts cyc dly win prec ds es ls q) (fun g => by rw [e1, if_pos c1, if_pos c2, if_pos hlt.1, if_neg hlt.2]) hr0, ?_⟩
          cases fb with
          | true => exact hI0.skip hlt.1 (by omega) (yes rfl)
          | false => exact hI0.same (no rfl)
        · have hstep : ∀ g, tocsinref15_Wait.l1 (g + 1) host down t m b f i (stretchV dly prec down (es.getD i z40)).f1 k hosts cyc dly win prec ds es ls q = ((tocsinref15_free.f g hosts cyc dly win prec ds es ls q host down y m).bind fun t371 => (if t371 = true then (tocsinref15_Wait.l1 g host down t m y true i (stretchV dly prec down (es.getD i z40)).f1 (k + 1) hosts cyc dly win prec ds es ls q) else (tocsinref15_Wait.l1 g host down t m b f i (stretchV dly prec down (es.getD i z40)).f1 (k + 1) hosts cyc dly win prec ds es ls q))) := by
            intro g
            rw [e1, if_pos c1, if_pos c2]
            cases hf : f with
            | true => rw [if_pos rfl, if_pos (by
                by_cases h : y < b
                · exact h
                · exact absurd ⟨hf, h⟩ hlt)]
            | false => rw [if_neg (by decide)]
          cases hfv : fb with
          | true =>
            obtain ⟨r1, hr1, hI1⟩ := ih (k + 1) y true (by omega) (by omega)
            refine ⟨r1, Ev.step (f := fun g => ((tocsinref15_free.f g hosts cyc dly win prec ds es ls q host down y m).bind fun t371 => (if t371 = true then (tocsinref15_Wait.l1 g host down t m y true i (stretchV dly prec down (es.getD i z40)).f1 (k + 1) hosts cyc dly win prec ds es ls q) else (tocsinref15_Wait.l1 g host down t m b f i (stretchV dly prec down (es.getD i z40)).f1 (k + 1) hosts cyc dly win prec ds es ls q)))) hstep (Ev.bind hfb (by rw [hfv]; simp only [if_true]; exact hr1)), ?_⟩
            refine hI1.take (fun hf => ?_) (yes hfv)
            by_cases h : y < b
            · omega
            · exact absurd ⟨hf, h⟩ hlt
          | false =>
            exact ⟨r0, Ev.step (f := fun g => ((tocsinref15_free.f g hosts cyc dly win prec ds es ls q host down y m).bind fun t371 => (if t371 = true then (tocsinref15_Wait.l1 g host down t m y true i (stretchV dly prec down (es.getD i z40)).f1 (k + 1) hosts cyc dly win prec ds es ls q) else (tocsinref15_Wait.l1 g host down t m b f i (stretchV dly prec down (es.getD i z40)).f1 (k + 1) hosts cyc dly win prec ds es ls q)))) hstep (Ev.bind hfb (by rw [hfv]; simp only [Bool.false_eq_true, if_false]; exact hr0)), hI0.same (no hfv)⟩
      · refine ⟨r0, Ev.step (f := fun g => tocsinref15_Wait.l1 g host down t m b f i (stretchV dly prec down (es.getD i z40)).f1 (k + 1) hosts cyc dly win prec ds es ls q) (fun g => by rw [e1, if_pos c1, if_neg c2]) hr0, hI0.same fun x => ?_⟩
        rw [split]
        exact ⟨fun h => h.elim (fun h => absurd h.2.2.1 c2) id, .inr⟩
    · refine ⟨r0, Ev.step (f := fun g => tocsinref15_Wait.l1 g host down t m b f i (stretchV dly prec down (es.getD i z40)).f1 (k + 1) hosts cyc dly win prec ds es ls q) (fun g => by rw [e1, if_neg c1]) hr0, hI0.same fun x => ?_⟩
      rw [split]
      exact ⟨fun h => h.elim (fun h => absurd h.2.1 c1) id, .inr⟩
theorem refWait_i (K : Okc hosts cyc dly win prec ds es ls q) (ho : ∀ e ∈ es, okE e) {t m host : Int} {down : Bool} (ht : 0 ≤ t ∧ t ≤ 1125899906842624) (hm : 1 ≤ m ∧ m ≤ cyc) : ∀ (d i : Nat) (b : Int) (f : Bool), i + d = es.length →
    ∃ r, Ev (fun g => tocsinref15_Wait.l0 g host down t m b f i hosts cyc dly win prec ds es ls q) r ∧ Imp (CandI cyc dly prec es down m (resV dly prec es host down) t i) b f r := by
  obtain ⟨s1, s2, s3, s4, s5, s6, s7⟩ := split_t ht.1 K.c.1
  have hc := K.c
  have hn := K.n
  intro d
  induction d with
  | zero =>
    intro i b f hi
    exact ⟨(b, f), Ev.step (f := fun _ => some (b, f)) (fun g => by rw [tocsinref15_Wait.l0, if_neg (by omega)]) (Ev.now _), Imp.none fun x h => by obtain ⟨j, h1, h2, _⟩ := h; omega⟩
  | succ d ih =>
    intro i b f hi
    have hm' := getE (l := es) (i := i) (by omega)
    have hf := K.fwd hm'
    have hf2 := K.times hm'
    have hti := time_in (es.getD i z40).f3
    obtain ⟨v1, v2, v3⟩ := stretch_is K hm' down
    obtain ⟨r, hr, hI⟩ := refWait_k (host := host) (down := down) K ho ht hm i (by omega) (fun b f => ih (i + 1) b f (by omega)) 5 (t / cyc - 1) b f (by omega) (by omega)
    have hj1 : Ev (fun g => tocsinref15_Wait.j1 g host down t m b f i (stretchV dly prec down (es.getD i z40)).f1 hosts cyc dly win prec ds es ls q) r :=
      Ev.step (f := fun g => tocsinref15_Wait.l1 g host down t m b f i (stretchV dly prec down (es.getD i z40)).f1 (t / cyc - 1) hosts cyc dly win prec ds es ls q) (fun g => by rw [tocsinref15_Wait.j1, if_neg (by omega), s6, w64 (x := t / cyc) (by omega), w64 (by omega)]) hr
    refine ⟨r, Ev.step (f := fun g => tocsinref15_Wait.j1 g host down t m b f i (stretchV dly prec down (es.getD i z40)).f1 hosts cyc dly win prec ds es ls q) (fun g => ?_) hj1, hI.same fun x => ⟨fun h => ?_, fun h => ?_⟩⟩
    · rw [tocsinref15_Wait.l0, if_pos (by omega), if_pos (by omega), rdE, refTime_f, Option.bind_some]
      cases down with
      | false =>
        rw [if_neg (by decide), w64 (by omega)]; rfl
      | true =>
        rw [if_pos rfl, refTimes_f _ K.s (by omega), Option.bind_some, Option.bind_some]
        have : (stretchV dly prec true (es.getD i z40)).f1 = fwdV dly prec (es.getD i z40) + timeV (es.getD i z40).f3 := rfl
        rw [this]
        simp only
        rw [w64 (by omega)]
    · obtain ⟨j, h1, h2, k, h3, h4, h5, h6⟩ := h
      by_cases e : j = i
      · subst e; exact .inl ⟨k, h3, h4, h5, h6⟩
      · exact .inr ⟨j, by omega, h2, k, h3, h4, h5, h6⟩
    · rcases h with ⟨k, h3, h4, h5, h6⟩ | ⟨j, h1, h2, k, h3, h4, h5, h6⟩
      · exact ⟨i, Nat.le_refl _, by omega, k, h3, h4, h5, h6⟩
      · exact ⟨j, by omega, h2, k, h3, h4, h5, h6⟩
theorem refWait_ev (hs : sane hosts cyc dly win prec ds es ls q) (host : Int) (down : Bool) (t m : Int) : ∃ r, Ev (fun k => tocsinref15_Wait.f k hosts cyc dly win prec ds es ls q host down t m) r ∧ (¬ WireOk hosts cyc dly win prec ds es ls q host t m → r = (0, false)) ∧
    (WireOk hosts cyc dly win prec ds es ls q host t m → (¬ Blk cyc m (resV dly prec es host down) t ∧ r = (t, true)) ∨ (Blk cyc m (resV dly prec es host down) t ∧ Imp (CandI cyc dly prec es down m (resV dly prec es host down) t 0) 0 false r)) := by
  by_cases hw : WireOk hosts cyc dly win prec ds es ls q host t m
  · obtain ⟨ht, K⟩ := good_iff hw.1
    have ho := hs.2.2.2.2.2.2.2.1
    obtain ⟨b, hb, hi⟩ := refFree_ev K ho host down (t := t) (by omega) hw.2.2.2
    obtain ⟨r, hr, hI⟩ := refWait_i (host := host) (down := down) K ho ht hw.2.2.2 es.length 0 0 false (by omega)
    cases hbv : b with
    | true =>
      refine ⟨(t, true), ?_, fun h => absurd hw h, fun _ => .inl ⟨hi.1 hbv, rfl⟩⟩
      unfold tocsinref15_Wait.f
      refine Ev.bind (refWire_ev hs host t m) ?_
      simp only [decide_eq_true hw, if_true]
      refine Ev.bind hb ?_
      simp only [hbv, if_true]
      exact Ev.now _
    | false =>
      refine ⟨r, ?_, fun h => absurd hw h, fun _ => .inr ⟨Classical.byContradiction (fun h => by have := hi.2 h; rw [hbv] at this; cases this), hI⟩⟩
      unfold tocsinref15_Wait.f
      refine Ev.bind (refWire_ev hs host t m) ?_
      simp only [decide_eq_true hw, if_true]
      refine Ev.bind hb ?_
      simp only [hbv, Bool.false_eq_true, if_false]
      exact hr
  · refine ⟨(0, false), ?_, fun _ => rfl, fun h => absurd h hw⟩
    unfold tocsinref15_Wait.f
    refine Ev.bind (refWire_ev hs host t m) ?_
    simp only [decide_eq_false hw, Bool.false_eq_true, if_false]
    exact Ev.now _
theorem wait_same {host t m : Int} {down : Bool} (hw : WireOk hosts cyc dly win prec ds es ls q host t m) {r r' : Int × Bool} (h : WaitP cyc m (resV dly prec es host down) t r)
    (h' : (¬ Blk cyc m (resV dly prec es host down) t ∧ r' = (t, true)) ∨ (Blk cyc m (resV dly prec es host down) t ∧ Imp (CandI cyc dly prec es down m (resV dly prec es host down) t 0) 0 false r')) : r = r' := by
  obtain ⟨ht, K⟩ := good_iff hw.1
  have hc := K.c
  obtain ⟨h1, h2⟩ := h
  obtain ⟨x, b⟩ := r
  simp only at h1 h2
  rcases h' with ⟨hf, rfl⟩ | ⟨hblk, hI⟩
  · cases b with
    | true =>
      obtain ⟨a1, a2, a3, a4, a5⟩ := h1 rfl
      by_cases e : x = t
      · rw [e]
      · exact absurd (a4 t (Int.le_refl _) (by omega)) hf
    | false => exact absurd ((h2 rfl).2 t (Int.le_refl _) (by omega)) hf
  · cases b with
    | true =>
      obtain ⟨a1, a2, a3, a4, a5⟩ := h1 rfl
      have hend : ∃ k s, s ∈ resV dly prec es host down ∧ x = k * cyc + s.f1 := by
        rcases a5 with a5 | a5
        · subst a5; exact absurd hblk a3
        · exact a5
      obtain ⟨k, s, hs, hx⟩ := hend
      have hin := res_in K host down s hs
      obtain ⟨j, hj, _, hst⟩ := res_get.1 hs
      obtain ⟨s1, s2, s3, s4, s5, s6, s7⟩ := split_t ht.1 hc.1
      have k1 : t / cyc < k + 1 := by
        refine mul_lt (c := cyc) (by omega) ?_
        rw [Int.add_mul, Int.one_mul]
        generalize t / cyc * cyc = X at *
        omega
      have k2 : k < t / cyc + 4 := by
        refine mul_lt (c := cyc) (by omega) ?_
        rw [Int.add_mul]
        generalize t / cyc * cyc = X at *
        omega
      have hC : CandI cyc dly prec es down m (resV dly prec es host down) t 0 x := ⟨j, Nat.zero_le _, hj, k, by omega, by omega, by rw [← hst]; exact hx, a1, a2, a3⟩
      obtain ⟨q1, q2⟩ := hI.all x hC
      obtain ⟨y, f⟩ := r'
      simp only at q1 q2
      subst q1
      rcases hI.src with ⟨_, h⟩ | ⟨_, hCy⟩
      · cases h
      · obtain ⟨_, _, _, _, _, _, _, o1, o2, o3⟩ := hCy
        simp only at o1 o2 o3
        by_cases e : y = x
        · rw [e]
        · exact absurd (a4 y o1 (by omega)) o3
    | false =>
      obtain ⟨hx0, hall⟩ := h2 rfl
      subst hx0
      obtain ⟨y, f⟩ := r'
      rcases hI.src with ⟨h, h'⟩ | ⟨_, hCy⟩
      · simp only at h h'; rw [h, h']
      · obtain ⟨_, _, _, _, _, _, _, o1, o2, o3⟩ := hCy
        exact absurd (hall _ o1 o2) o3
theorem frees (hs : sane hosts cyc dly win prec ds es ls q) (host t m : Int) (hh : i64 host) (down : Bool) : ∃ k, tocsinlaw15_PlanFrees.f k hosts cyc dly win prec ds es ls q host t m down = some true := by
  refine Ev.rounds (g := fun k => tocsinlaw15_PlanFrees.f k hosts cyc dly win prec ds es ls q host t m down) (r := true) ?_
  unfold tocsinlaw15_PlanFrees.f
  refine Ev.bind fixed_ev ?_
  simp only [if_true]
  obtain ⟨r, hr, r1, r2⟩ := wait_ev hs host hh down t m
  obtain ⟨r', hr', q1, q2⟩ := refWait_ev hs host down t m
  obtain ⟨b, hb, hbi⟩ := free_ev hs host hh down t m
  obtain ⟨b', hb', hbi'⟩ := refFree_all hs host down t m
  have e1 : r = r' := by
    by_cases hw : WireOk hosts cyc dly win prec ds es ls q host t m
    · exact wait_same hw (r2 hw) (q2 hw)
    · rw [r1 hw, q1 hw]
  have e2 : b = b' := by rw [Bool.eq_iff_iff, hbi, hbi']
  subst e1
  subst e2
  refine Ev.bind hr (Ev.bind hr' (Ev.bind hb (Ev.bind hb' ?_)))
  simp only [beq_self_eq_true, if_true]
  exact Ev.now _
end
end Go.Proofs.Ytbmldeikjfecfaa.Hd
