/- A part of the proof of the statement PlanWaits: words, contracts of functions that it reaches, and what they compute. No condition. -/
import Derived.Test.YtbmldeikjfecfaaU48
set_option linter.unusedVariables false
set_option linter.unusedSimpArgs false
namespace Go.Proofs.Ytbmldeikjfecfaa.Hd
open Go.RowKit Go.Proofs.Ytbmldeikjfecfaa.T Go.Proofs.YtbmldeikjfecfaaW.PrintWords Go.Proofs.YtbmldeikjfecfaaW.PrintLast Go.Proofs.YtbmldeikjfecfaaW.PrintMore
section
variable {hosts cyc dly win prec : Int} {A5 : Option Addr} {c5 : Nat} {ds : List (List Int)} {A6 : Option Addr} {c6 : Nat} {es : List S40} {A7 : Option Addr} {c7 : Nat} {ls : List S63} {q : Int}
theorem res_get {host : Int} {down : Bool} {s : S71} : s ∈ resV dly prec es host down ↔ ∃ j, j < es.length ∧ onWire host down (es.getD j z40) = true ∧ s = stretchV dly prec down (es.getD j z40) := by
  unfold resV
  rw [List.mem_map]
  constructor
  · rintro ⟨e, he, rfl⟩
    obtain ⟨h1, h2⟩ := List.mem_filter.1 he
    obtain ⟨j, hj, rfl⟩ := List.mem_iff_getElem.1 h1
    have : es.getD j z40 = es[j] := by rw [List.getD_eq_getElem?_getD, List.getElem?_eq_getElem hj]; rfl
    exact ⟨j, hj, by rw [this]; exact h2, by rw [this]⟩
  · rintro ⟨j, hj, h1, rfl⟩
    exact ⟨es.getD j z40, List.mem_filter.2 ⟨getE hj, h1⟩, rfl⟩
structure Imp (C : Int → Prop) (b : Int) (f : Bool) (r : Int × Bool) : Prop where
  up : f = true → r.2 = true ∧ r.1 ≤ b
  all : ∀ x, C x → r.2 = true ∧ r.1 ≤ x
  src : (r.1 = b ∧ r.2 = f) ∨ (r.2 = true ∧ C r.1)
def OkT (cyc m : Int) (L : List S71) (t x : Int) : Prop := t ≤ x ∧ x ≤ t + 2 * cyc ∧ ¬ Blk cyc m L x
def CandI (cyc dly prec : Int) (es : List S40) (down : Bool) (m : Int) (L : List S71) (t : Int) (i : Nat) (x : Int) : Prop := ∃ j, i ≤ j ∧ j < es.length ∧ ∃ k, t / cyc - 1 ≤ k ∧ k ≤ t / cyc + 3 ∧ x = k * cyc + (stretchV dly prec down (es.getD j z40)).f1 ∧ OkT cyc m L t x
theorem wait_same {host t m : Int} {down : Bool} (hw : WireOk hosts cyc dly win prec ds es ls q host t m) {r r' : Int × Bool} (h : WaitP cyc m (resV dly prec es host down) t r)
    (h' : (¬ Blk cyc m (resV dly prec es host down) t ∧ r' = (t, true)) ∨ (Blk cyc m (resV dly prec es host down) t ∧ Imp (CandI cyc dly prec es down m (resV dly prec es host down) t 0) 0 false r')) : r = r' := by
  obtain ⟨ht, K⟩ := good_iff hw.1
  have hc := K.c
  obtain ⟨h1, h2⟩ := h
  obtain ⟨x, b⟩ := r
  simp only at h1 h2
  rcases h' with ⟨hf, rfl⟩ | ⟨hblk, hI⟩
  · cases b with
    | true =>
      obtain ⟨a1, a2, a3, a4, a5⟩ := h1 rfl
      by_cases e : x = t
      · rw [e]
      · exact absurd (a4 t (Int.le_refl _) (by omega)) hf
    | false => exact absurd ((h2 rfl).2 t (Int.le_refl _) (by omega)) hf
  · cases b with
    | true =>
      obtain ⟨a1, a2, a3, a4, a5⟩ := h1 rfl
      have hend : ∃ k s, s ∈ resV dly prec es host down ∧ x = k * cyc + s.f1 := by
        rcases a5 with a5 | a5
        · subst a5; exact absurd hblk a3
        · exact a5
      obtain ⟨k, s, hs, hx⟩ := hend
      have hin := res_in K host down s hs
      obtain ⟨j, hj, _, hst⟩ := res_get.1 hs
      obtain ⟨s1, s2, s3, s4, s5, s6, s7⟩ := split_t ht.1 hc.1
      have k1 : t / cyc < k + 1 := by
        refine mul_lt (c := cyc) (by omega) ?_
        rw [Int.add_mul, Int.one_mul]
        generalize t / cyc * cyc = X at *
        omega
      have k2 : k < t / cyc + 4 := by
        refine mul_lt (c := cyc) (by omega) ?_
        rw [Int.add_mul]
        generalize t / cyc * cyc = X at *
        omega
      have hC : CandI cyc dly prec es down m (resV dly prec es host down) t 0 x := ⟨j, Nat.zero_le _, hj, k, by omega, by omega, by rw [← hst]; exact hx, a1, a2, a3⟩
      obtain ⟨q1, q2⟩ := hI.all x hC
      obtain ⟨y, f⟩ := r'
      simp only at q1 q2
      subst q1
      rcases hI.src with ⟨_, h⟩ | ⟨_, hCy⟩
      · cases h
      · obtain ⟨_, _, _, _, _, _, _, o1, o2, o3⟩ := hCy
        simp only at o1 o2 o3
        by_cases e : y = x
        · rw [e]
        · exact absurd (a4 y o1 (by omega)) o3
    | false =>
      obtain ⟨hx0, hall⟩ := h2 rfl
      subst hx0
      obtain ⟨y, f⟩ := r'
      rcases hI.src with ⟨h, h'⟩ | ⟨_, hCy⟩
      · simp only at h h'; rw [h, h']
      · obtain ⟨_, _, _, _, _, _, _, o1, o2, o3⟩ := hCy
        exact absurd (hall _ o1 o2) o3
theorem send_zone (hs : sane hosts cyc dly win prec ds es ls q) {i t : Int} (h : Ent hosts cyc dly win prec ds es ls q i t) : ∃ k, sendV cyc (rd_T40 es i).f2 t = k * cyc + (rd_T40 es i).f2 ∧ t ≤ sendV cyc (rd_T40 es i).f2 t ∧ 0 ≤ k := by
  obtain ⟨hg, h0, h1⟩ := h
  obtain ⟨ht, K⟩ := good_iff hg
  obtain ⟨s1, s2, s3, s4, s5, s6, s7⟩ := split_t ht.1 K.c.1
  have hc := K.c
  have hf := K.fwd (rd_mem h0 h1)
  have hf2 := K.times (rd_mem h0 h1)
  generalize (rd_T40 es i).f2 = p at *
  unfold sendV
  by_cases c : t % cyc > p
  · rw [if_pos c]
    refine ⟨t / cyc + 1, by rw [Int.add_mul, Int.one_mul], ?_, by omega⟩
    generalize t / cyc * cyc = X at *
    omega
  · rw [if_neg c]
    refine ⟨t / cyc, rfl, ?_, by omega⟩
    generalize t / cyc * cyc = X at *
    omega
theorem waits_loop (hs : sane hosts cyc dly win prec ds es ls q) (t : Int) (ht : i64 t) : ∀ (d i : Nat), i + d = es.length → Ev (fun k => tocsinlaw15_PlanWaits.l0 k t es (es.length : Int) i hosts cyc dly win prec ds es ls q) true := by
  have hn := hs.2.2.2.2.2.2.2.2.2.2.1
  intro d
  induction d with
  | zero =>
    intro i hi
    exact Ev.step (f := fun _ => some true) (fun k => by rw [tocsinlaw15_PlanWaits.l0, if_neg (by omega)]) (Ev.now _)
  | succ d ih =>
    intro i hi
    have next : Ev (fun k => tocsinlaw15_PlanWaits.l0 k t es (es.length : Int) (wrap64 ((i : Int) + 1)) hosts cyc dly win prec ds es ls q) true := by
      rw [w64 (by omega)]
      exact ih (i + 1) (by omega)
    by_cases h : Ent hosts cyc dly win prec ds es ls q i t
    · have hh := h
      obtain ⟨hg, h0, h1⟩ := h
      obtain ⟨ht', K⟩ := good_iff hg
      obtain ⟨k0, z1, z2, z3⟩ := send_zone hs hh
      have hmem := rd_mem h0 h1
      have hf := K.fwd hmem
      have hf2 := K.times hmem
      have hc := K.c
      have hti := time_in (rd_T40 es i).f3
      have hro := K.route hmem
      have hroi : 0 ≤ (rd_T40 es i).f0 ∧ (rd_T40 es i).f0 < hosts := by
        unfold routeV at hro
        simp only [Bool.and_eq_true, decide_eq_true_eq] at hro
        exact ⟨hro.1.1.1.1.1.1, hro.1.1.1.1.1.2⟩
      generalize hS : sendV cyc (rd_T40 es i).f2 t = S at *
      by_cases hbig : S ≤ 1125899906842624
      · obtain ⟨b, hb, hbi⟩ := free_ev hs (rd_T40 es i).f0 (hs.2.2.2.2.2.2.2.1 _ hmem).1 false S (timeV (rd_T40 es i).f3)
        have hbf : b = false := by
          cases b with
          | false => rfl
          | true =>
            obtain ⟨_, hnb⟩ := hbi.1 rfl
            refine absurd ⟨k0, stretchV dly prec false (rd_T40 es i), ?_, ?_, ?_⟩ hnb
            · exact List.mem_map.2 ⟨_, List.mem_filter.2 ⟨hmem, by unfold onWire; simp⟩, rfl⟩
            · show k0 * cyc + (rd_T40 es i).f2 < S + timeV (rd_T40 es i).f3
              omega
            · show S < k0 * cyc + ((rd_T40 es i).f2 + timeV (rd_T40 es i).f3)
              omega
        refine Ev.step (f := fun k => (plan_Free.f k hosts cyc dly win prec ds es ls q (rd_T40 es i).f0 false S (timeV (rd_T40 es i).f3)).bind fun t394 => (if t394 = true then (none) else (tocsinlaw15_PlanWaits.l0 k t es (es.length : Int) (wrap64 ((i : Int) + 1)) hosts cyc dly win prec ds es ls q))) (fun k => ?_) (Ev.bind hb (by rw [hbf]; simp only [Bool.false_eq_true, if_false]; exact next))
        rw [tocsinlaw15_PlanWaits.l0, if_pos (by omega), if_pos (by omega), if_pos (by omega), send_ok hs hh, Option.bind_some, hS]
        simp only [if_true]
        rw [if_pos hbig, time_f, Option.bind_some]
      · refine Ev.step (f := fun k => tocsinlaw15_PlanWaits.l0 k t es (es.length : Int) (wrap64 ((i : Int) + 1)) hosts cyc dly win prec ds es ls q) (fun k => ?_) next
        rw [tocsinlaw15_PlanWaits.l0, if_pos (by omega), if_pos (by omega), if_pos (by omega), send_ok hs hh, Option.bind_some, hS]
        simp only [if_true]
        rw [if_neg hbig]
    · refine Ev.step (f := fun k => tocsinlaw15_PlanWaits.l0 k t es (es.length : Int) (wrap64 ((i : Int) + 1)) hosts cyc dly win prec ds es ls q) (fun k => ?_) next
      rw [tocsinlaw15_PlanWaits.l0, if_pos (by omega), if_pos (by omega), if_pos (by omega), send_no hs h, Option.bind_some, if_neg (by decide)]
theorem waits (hs : sane hosts cyc dly win prec ds es ls q) (host t m : Int) (hh : i64 host) (ht : i64 t) (down : Bool) : ∃ k, tocsinlaw15_PlanWaits.f k hosts cyc dly win prec ds es ls q host t m down = some true := by
  refine Ev.rounds (g := fun k => tocsinlaw15_PlanWaits.f k hosts cyc dly win prec ds es ls q host t m down) (r := true) ?_
  unfold tocsinlaw15_PlanWaits.f
  refine Ev.bind fixed_ev ?_
  simp only [if_true]
  obtain ⟨r, hr, r1, r2⟩ := wait_ev hs host hh down t m
  obtain ⟨b, hb, hbi⟩ := free_ev hs host hh down t m
  refine Ev.bind hr (Ev.bind hb ?_)
  have l0 : Ev (fun k => tocsinlaw15_PlanWaits.j1 k t false hosts cyc dly win prec ds es ls q) true := Ev.step (f := fun k => tocsinlaw15_PlanWaits.l0 k t es (es.length : Int) ((0 : Nat) : Int) hosts cyc dly win prec ds es ls q) (fun k => by rw [tocsinlaw15_PlanWaits.j1, if_neg (by decide)]; rfl) (waits_loop hs t ht es.length 0 (by omega))
  have hj : Ev (fun k => tocsinlaw15_PlanWaits.j0 k down host t m r.1 r.2 false hosts cyc dly win prec ds es ls q) true := by
    cases hrv : r.2 with
    | false => exact Ev.step (f := fun k => tocsinlaw15_PlanWaits.j1 k t false hosts cyc dly win prec ds es ls q) (fun k => by rw [tocsinlaw15_PlanWaits.j0, if_neg (by decide), if_neg (by decide)]) l0
    | true =>
      by_cases hbig : r.1 ≤ 1125899906842624
      · have hw : WireOk hosts cyc dly win prec ds es ls q host t m := Classical.byContradiction fun h => by rw [r1 h] at hrv; cases hrv
        obtain ⟨ht', K⟩ := good_iff hw.1
        have hc := K.c
        obtain ⟨a1, a2, a3, a4, a5⟩ := (r2 hw).1 hrv
        obtain ⟨b2, hb2, hb2i⟩ := free_ev hs host hh down r.1 m
        have hw2 : WireOk hosts cyc dly win prec ds es ls q host r.1 m := ⟨by unfold goodV; rw [good_zero hw.1, decide_eq_true (by omega)]; rfl, hw.2⟩
        have hb2t : b2 = true := hb2i.2 ⟨hw2, a3⟩
        refine Ev.step (f := fun k => (plan_Free.f k hosts cyc dly win prec ds es ls q host down r.1 m).bind fun t388 => (if t388 = true then (if r.1 < t then (tocsinlaw15_PlanWaits.j1 k t true hosts cyc dly win prec ds es ls q) else (tocsinlaw15_PlanWaits.j1 k t (decide (r.1 > (wrap64 (t + (wrap64 (2 * cyc)))))) hosts cyc dly win prec ds es ls q)) else (tocsinlaw15_PlanWaits.j1 k t true hosts cyc dly win prec ds es ls q))) (fun k => by rw [tocsinlaw15_PlanWaits.j0, if_neg (by decide), if_pos rfl, if_pos hbig]) (Ev.bind hb2 ?_)
        rw [hb2t]
        rw [w64 (x := 2 * cyc) (by omega), w64 (x := t + 2 * cyc) (by omega), decide_eq_false (show ¬ r.1 > t + 2 * cyc by omega)]
        simp only [if_true, if_neg (show ¬ r.1 < t by omega)]
        exact l0
      · exact Ev.step (f := fun k => tocsinlaw15_PlanWaits.j1 k t false hosts cyc dly win prec ds es ls q) (fun k => by rw [tocsinlaw15_PlanWaits.j0, if_neg (by decide), if_pos rfl, if_neg hbig]) l0
  cases hbv : b with
  | false => simp only [Bool.false_eq_true, if_false]; exact hj
  | true =>
    obtain ⟨hw, hnb⟩ := hbi.1 hbv
    obtain ⟨ht', K⟩ := good_iff hw.1
    have hc := K.c
    have hrt : r = (t, true) := by
      have hP := r2 hw
      obtain ⟨x, f⟩ := r
      cases f with
      | true =>
        obtain ⟨a1, a2, a3, a4, a5⟩ := hP.1 rfl
        by_cases e : x = t
        · rw [e]
        · exact absurd (a4 t (Int.le_refl _) (by simp only at a1; omega)) hnb
      | false => exact absurd ((hP.2 rfl).2 t (Int.le_refl _) (by omega)) hnb
    rw [hrt] at hj ⊢
    simp only [if_true, bne_self_eq_false]
    exact hj
end
end Go.Proofs.Ytbmldeikjfecfaa.Hd
