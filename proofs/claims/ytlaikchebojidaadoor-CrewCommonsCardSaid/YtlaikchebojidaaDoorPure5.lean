/- What crews have in common. -/
import Derived.Test.YtlaikchebojidaaDoorPure2
import Derived.Test.YtlaikchebojidaaDoorPure3
namespace Go.Proofs.YtlaikchebojidaaDoor.Pure
open Go.RowKit Go.Proofs.YtlaikchebojidaaDoor Go.Proofs.YtlaikchebojidaaDoor.T Go.Proofs.YtlaikchebojidaaDoorW.PrintWords Go.Proofs.YtlaikchebojidaaDoorW.PrintLast Go.Proofs.YtlaikchebojidaaDoorW.PrintMore
set_option linter.unusedVariables false

theorem low_bit (c h : Int) (c0 : 0 ≤ c) (c1 : c < 4294967296) (h0 : 0 ≤ h) (h5 : h ≤ 5) : Go.bits .and .u32 (shr .u32 c (IntKind.u64.wrap h)) 1 = if bit c h = true then 1 else 0 := by
  have e : IntKind.u64.wrap h = h := by simp [IntKind.wrap, IntKind.signed, IntKind.bits]; omega
  have es : shr .u32 c h = c / 2 ^ h.toNat := by unfold shr; rw [Nat.min_eq_left (by simp [IntKind.bits]; omega)]
  have hd : 0 ≤ c / 2 ^ h.toNat := Int.ediv_nonneg c0 (by have : (0 : Int) < 2 ^ h.toNat := Int.pow_pos (by decide)
                                                          omega)
  have hl : c / 2 ^ h.toNat ≤ c := Int.ediv_le_self _ c0
  obtain ⟨n, hn⟩ := Int.eq_ofNat_of_zero_le hd
  have ha := bits_and_u32_nat n 1 (by omega) (by decide)
  rw [show ((1 : Nat) : Int) = 1 from rfl] at ha
  unfold bit
  rw [e, es, hn, ha, Nat.and_one_is_mod]
  by_cases hb : n % 2 = 1
  · rw [if_pos (by rw [beq_iff_eq]; omega)]; omega
  · rw [if_neg (by rw [beq_iff_eq]; omega)]; omega
/-- How many crews have the host. -/
def cnt (l : List Int) (h : Int) : Nat := l.countP fun x => bit x h
def half (l : List Int) (h : Int) : Bool := decide (l.length < 2 * cnt l h)
theorem drop_cons {l : List Int} {i : Nat} (hlt : i < l.length) : l.drop i = l.getD i 0 :: l.drop (i + 1) := by
  rw [List.drop_eq_getElem_cons hlt, List.getD_eq_getElem?_getD, List.getElem?_eq_getElem hlt]; rfl
theorem getD_mem {l : List Int} {i : Nat} (hlt : i < l.length) : l.getD i 0 ∈ l := by
  rw [List.getD_eq_getElem?_getD, List.getElem?_eq_getElem hlt]; exact List.getElem_mem _
theorem com_loop (l : List Int) (hw : ∀ x ∈ l, 0 ≤ x ∧ x < 4294967296) (hl : l.length < 4611686018427387904) (c h : Int) (h0 : 0 ≤ h) (h5 : h ≤ 5) (r : Int) (d : Nat) : ∀ i n : Nat, i + d = l.length → n ≤ i →
    Ev (fun k => P.crew_Common.l0 k l (if l.length < 2 * (n + (l.drop i).countP fun x => bit x h) then Go.bits .or .u32 c (shl .u32 1 h) else c) (h + 1)) r →
    Ev (fun k => P.crew_Common.l1 k l c h n h l (l.length : Int) i) r := by
  have e : IntKind.u64.wrap h = h := by simp [IntKind.wrap, IntKind.signed, IntKind.bits]; omega
  induction d with
  | zero =>
    intro i n hi hn hr
    rw [List.drop_of_length_le (by omega), List.countP_nil, Nat.add_zero] at hr
    refine Ev.step (fun k => ?_) hr
    rw [P.crew_Common.l1, if_neg (by omega), wrap_in (by omega), e, wrap_in (by omega)]
    by_cases hc : l.length < 2 * n
    · rw [if_pos hc, if_pos (by omega), if_pos h0]
    · rw [if_neg hc, if_neg (by omega)]
  | succ d ih =>
    intro i n hi hn hr
    have er : rd l (i : Int) = l.getD i 0 := by simp [rd]
    have e1 : wrap64 ((i : Int) + 1) = ((i + 1 : Nat) : Int) := by rw [wrap_in (by omega)]; omega
    have hx := hw _ (getD_mem (l := l) (i := i) (by omega))
    rw [drop_cons (by omega), List.countP_cons] at hr
    by_cases hb : bit (l.getD i 0) h = true
    · rw [if_pos hb] at hr
      refine Ev.step (f := fun k => P.crew_Common.l1 k l c h ((n + 1 : Nat) : Int) h l (l.length : Int) ((i + 1 : Nat) : Int)) (fun k => ?_) (ih (i + 1) (n + 1) (by omega) (by omega) (by rw [show n + 1 + (l.drop (i + 1)).countP (fun x => bit x h) = n + ((l.drop (i + 1)).countP (fun x => bit x h) + 1) by omega]; exact hr))
      rw [P.crew_Common.l1, if_pos (by omega), if_pos (by omega), if_pos (by omega), if_pos (by omega), er, low_bit _ h hx.1 hx.2 h0 h5, if_pos hb, e1, wrap_in (x := 1) (by omega), wrap_in (by omega)]
      congr 1
    · rw [if_neg hb, Nat.add_zero] at hr
      refine Ev.step (f := fun k => P.crew_Common.l1 k l c h (n : Int) h l (l.length : Int) ((i + 1 : Nat) : Int)) (fun k => ?_) (ih (i + 1) n (by omega) (by omega) hr)
      rw [P.crew_Common.l1, if_pos (by omega), if_pos (by omega), if_pos (by omega), if_pos (by omega), er, low_bit _ h hx.1 hx.2 h0 h5, if_neg hb, e1, wrap_in (x := 0) (by omega), Int.add_zero, wrap_in (by omega)]
theorem crew_congr {c : Int} {p q : Int → Bool} (hc : IsCrew c p) (h : ∀ g, 0 ≤ g → g ≤ 5 → p g = q g) : IsCrew c q :=
  ⟨hc.1, hc.2.1, fun g g0 g5 => (hc.2.2 g g0 g5).trans (h g g0 g5)⟩
theorem com_hosts (l : List Int) (hw : ∀ x ∈ l, 0 ≤ x ∧ x < 4294967296) (hl : l.length < 4611686018427387904) (d : Nat) : ∀ (h : Int) (c : Int), h + d = 6 → 0 ≤ h → IsCrew c (fun g => decide (g < h) && half l g) →
    ∃ r, Ev (fun k => P.crew_Common.l0 k l c h) r ∧ IsCrew r (half l) := by
  induction d with
  | zero =>
    intro h c hh h0 hc
    refine ⟨c, Ev.step (f := fun _ => some c) (fun k => ?_) (Ev.now c), crew_congr hc fun g g0 g5 => ?_⟩
    · rw [P.crew_Common.l0, if_neg (by omega)]
    · rw [decide_eq_true (by omega), Bool.true_and]
  | succ d ih =>
    intro h c hh h0 hc
    have hn : IsCrew (if l.length < 2 * (0 + (l.drop 0).countP fun x => bit x h) then Go.bits .or .u32 c (shl .u32 1 h) else c) (fun g => decide (g < h + 1) && half l g) := by
      rw [Nat.zero_add, List.drop_zero]
      by_cases hb : l.length < 2 * l.countP fun x => bit x h
      · rw [if_pos hb]
        refine crew_congr (or_crew hc h0 (by omega)) fun g g0 g5 => ?_
        have hh' : half l h = true := decide_eq_true hb
        by_cases hg : g = h
        · subst hg; rw [hh', decide_eq_true (show g < g + 1 by omega)]; simp
        · have e1 : (g == h) = false := by simpa using hg
          have e2 : decide (g < h + 1) = decide (g < h) := by apply decide_eq_decide.2; omega
          rw [e1, e2, Bool.or_false]
      · rw [if_neg hb]
        refine crew_congr hc fun g g0 g5 => ?_
        have hh' : half l h = false := decide_eq_false hb
        by_cases hg : g = h
        · subst hg; rw [hh']; simp
        · have e2 : decide (g < h + 1) = decide (g < h) := by apply decide_eq_decide.2; omega
          rw [e2]
    obtain ⟨r, hr, hcr⟩ := ih (h + 1) _ (by omega) (by omega) hn
    refine ⟨r, Ev.step (f := fun k => P.crew_Common.l1 k l c h ((0 : Nat) : Int) h l (l.length : Int) ((0 : Nat) : Int)) (fun k => ?_) (com_loop l hw hl c h h0 (by omega) r l.length 0 0 (by omega) (by omega) hr), hcr⟩
    rw [P.crew_Common.l0, if_pos (by omega)]
    rfl
theorem common_ev (l : List Int) (hw : ∀ x ∈ l, 0 ≤ x ∧ x < 4294967296) (hl : l.length < 4611686018427387904) : ∃ r, Ev (fun k => P.crew_Common.f k l) r ∧ IsCrew r (half l) := by
  refine com_hosts l hw hl 6 0 0 (by omega) (by omega) ⟨by decide, by decide, fun h h0 h5 => ?_⟩
  show _ = (decide (h < 0) && half l h)
  rw [decide_eq_false (by omega), Bool.false_and]
  rcases six h0 h5 with rfl | rfl | rfl | rfl | rfl | rfl <;> decide
/-- The reference's. -/
theorem ref_loop (l : List Int) (hw : ∀ x ∈ l, 0 ≤ x ∧ x < 4294967296) (hl : l.length < 4611686018427387904) (c : List Int) (hc : c.length < 6) (h : Int) (h0 : 0 ≤ h) (h5 : h ≤ 5) (r : Int) (d : Nat) : ∀ i n : Nat, i + d = l.length → n ≤ i →
    Ev (fun k => tocsinref07_Common.l0 k l (if l.length < 2 * (n + (l.drop i).countP fun x => bit x h) then c ++ [h] else c) (h + 1)) r →
    Ev (fun k => tocsinref07_Common.l1 k l c h n i) r := by
  induction d with
  | zero =>
    intro i n hi hn hr
    rw [List.drop_of_length_le (by omega), List.countP_nil, Nat.add_zero] at hr
    refine Ev.step (fun k => ?_) hr
    rw [tocsinref07_Common.l1, if_neg (by omega), wrap_in (by omega), wrap_in (by omega)]
    by_cases hc' : l.length < 2 * n
    · rw [if_pos hc', if_pos (by omega), if_pos (by omega)]
    · rw [if_neg hc', if_neg (by omega)]
  | succ d ih =>
    intro i n hi hn hr
    have er : rd l (i : Int) = l.getD i 0 := by simp [rd]
    have e1 : wrap64 ((i : Int) + 1) = ((i + 1 : Nat) : Int) := by rw [wrap_in (by omega)]; omega
    have hx := hw _ (getD_mem (l := l) (i := i) (by omega))
    rw [drop_cons (by omega), List.countP_cons] at hr
    refine Ev.step (f := fun k => (tocsinref07_Has.f k (l.getD i 0) h).bind fun t153 => (if t153 = true then (tocsinref07_Common.l1 k l c h ((n + 1 : Nat) : Int) ((i + 1 : Nat) : Int)) else (tocsinref07_Common.l1 k l c h (n : Int) ((i + 1 : Nat) : Int)))) (fun k => ?_) (Ev.bind (refHas_ev _ h hx.1 hx.2 h0 h5) ?_)
    · rw [tocsinref07_Common.l1, if_pos (by omega), if_pos (by omega), er, e1, wrap_in (show _ ≤ (n : Int) + 1 ∧ _ by omega)]
      rfl
    · by_cases hb : bit (l.getD i 0) h = true
      · rw [if_pos hb] at hr
        simp only [if_pos hb]
        exact ih (i + 1) (n + 1) (by omega) (by omega) (by rw [show n + 1 + (l.drop (i + 1)).countP (fun x => bit x h) = n + ((l.drop (i + 1)).countP (fun x => bit x h) + 1) by omega]; exact hr)
      · rw [if_neg hb, Nat.add_zero] at hr
        simp only [if_neg hb]
        exact ih (i + 1) n (by omega) (by omega) hr
theorem ref_hosts (l : List Int) (hw : ∀ x ∈ l, 0 ≤ x ∧ x < 4294967296) (hl : l.length < 4611686018427387904) (d : Nat) : ∀ (h : Int) (c : List Int), h + d = 6 → 0 ≤ h → c.length ≤ h → (∀ g, 0 ≤ g → g ≤ 5 → c.contains g = (decide (g < h) && half l g)) →
    ∃ r, Ev (fun k => tocsinref07_Common.l0 k l c h) r ∧ IsCrew r (half l) := by
  induction d with
  | zero =>
    intro h c hh h0 hn hc
    refine ⟨sum6 fun g => c.contains g, Ev.step (f := fun k => (tocsinref07_Of.f k c).bind fun t => some t) (fun k => ?_) (Ev.bind (refOf_ev c (by omega)) (Ev.now _)), crew_congr (sum6_crew _) fun g g0 g5 => ?_⟩
    · rw [tocsinref07_Common.l0, if_neg (by omega)]
    · rw [hc g g0 g5, decide_eq_true (by omega), Bool.true_and]
  | succ d ih =>
    intro h c hh h0 hlen hc
    have hn : ∀ g, 0 ≤ g → g ≤ 5 → (if l.length < 2 * (0 + (l.drop 0).countP fun x => bit x h) then c ++ [h] else c).contains g = (decide (g < h + 1) && half l g) := by
      intro g g0 g5
      rw [Nat.zero_add, List.drop_zero]
      by_cases hb : l.length < 2 * l.countP fun x => bit x h
      · have hh' : half l h = true := decide_eq_true hb
        have ea : (c ++ [h]).contains g = (c.contains g || g == h) := by
          rw [Bool.eq_iff_iff]
          simp only [List.contains_iff_mem, List.mem_append, List.mem_singleton, Bool.or_eq_true, beq_iff_eq]
        rw [if_pos hb, ea, hc g g0 g5]
        by_cases hg : g = h
        · subst hg; rw [hh', decide_eq_true (show g < g + 1 by omega)]; simp
        · have e1 : (g == h) = false := by simpa using hg
          have e2 : decide (g < h + 1) = decide (g < h) := by apply decide_eq_decide.2; omega
          rw [e1, e2, Bool.or_false]
      · have hh' : half l h = false := decide_eq_false hb
        rw [if_neg hb, hc g g0 g5]
        by_cases hg : g = h
        · subst hg; rw [hh']; simp
        · have e2 : decide (g < h + 1) = decide (g < h) := by apply decide_eq_decide.2; omega
          rw [e2]
    have hnl : ((if l.length < 2 * (0 + (l.drop 0).countP fun x => bit x h) then c ++ [h] else c).length : Int) ≤ h + 1 := by
      split
      · simp; omega
      · omega
    obtain ⟨r, hr, hcr⟩ := ih (h + 1) _ (by omega) (by omega) hnl hn
    refine ⟨r, Ev.step (f := fun k => tocsinref07_Common.l1 k l c h ((0 : Nat) : Int) ((0 : Nat) : Int)) (fun k => ?_) (ref_loop l hw hl c (by omega) h h0 (by omega) r l.length 0 0 (by omega) (by omega) hr), hcr⟩
    rw [tocsinref07_Common.l0, if_pos (by omega)]
    rfl
theorem refCommon_ev (l : List Int) (hw : ∀ x ∈ l, 0 ≤ x ∧ x < 4294967296) (hl : l.length < 4611686018427387904) : ∃ r, Ev (fun k => tocsinref07_Common.f k l) r ∧ IsCrew r (half l) := by
  refine ref_hosts l hw hl 6 0 [] (by omega) (by omega) (by simp) (fun g g0 g5 => ?_)
  rw [decide_eq_false (by omega)]
  simp
theorem same_loop' (l : List Int) (hw : ∀ x ∈ l, 0 ≤ x ∧ x < 4294967296) (hl : l.length < 4611686018427387904) (c got : Int) (c0 : 0 ≤ c) (r : Bool) (d : Nat) : ∀ i n : Nat, i + d = l.length → n ≤ i →
    Ev (fun k => tocsinlaw07_CrewCommons.l0 k l c got ((n + (l.drop i).countP (fun x => x % 64 == c % 64) : Nat) : Int) l (l.length : Int) (l.length : Int)) r →
    Ev (fun k => tocsinlaw07_CrewCommons.l0 k l c got n l (l.length : Int) i) r := by
  induction d with
  | zero =>
    intro i n hi hn hr
    rw [List.drop_of_length_le (by omega), List.countP_nil, Nat.add_zero] at hr
    obtain rfl : i = l.length := by omega
    exact hr
  | succ d ih =>
    intro i n hi hn hr
    have er : rd l (i : Int) = l.getD i 0 := by simp [rd]
    have e1 : wrap64 ((i : Int) + 1) = ((i + 1 : Nat) : Int) := by rw [wrap_in (by omega)]; omega
    have hx := hw _ (getD_mem (l := l) (i := i) (by omega))
    rw [drop_cons (by omega), List.countP_cons] at hr
    by_cases hb : l.getD i 0 % 64 = c % 64
    · rw [if_pos (by rw [beq_iff_eq]; exact hb)] at hr
      refine Ev.step (f := fun k => tocsinlaw07_CrewCommons.l0 k l c got ((n + 1 : Nat) : Int) l (l.length : Int) ((i + 1 : Nat) : Int)) (fun k => ?_) (ih (i + 1) (n + 1) (by omega) (by omega) (by rw [show n + 1 + (l.drop (i + 1)).countP (fun x => x % 64 == c % 64) = n + ((l.drop (i + 1)).countP (fun x => x % 64 == c % 64) + 1) by omega]; exact hr))
      rw [tocsinlaw07_CrewCommons.l0, if_pos (by omega), if_pos (by omega), if_pos (by omega), er, tmod64 hx.1, tmod64 c0, if_pos hb, e1, wrap_in (by omega)]
      congr 1
    · rw [if_neg (by rw [beq_iff_eq]; exact hb), Nat.add_zero] at hr
      refine Ev.step (f := fun k => tocsinlaw07_CrewCommons.l0 k l c got (n : Int) l (l.length : Int) ((i + 1 : Nat) : Int)) (fun k => ?_) (ih (i + 1) n (by omega) (by omega) hr)
      rw [tocsinlaw07_CrewCommons.l0, if_pos (by omega), if_pos (by omega), if_pos (by omega), er, tmod64 hx.1, tmod64 c0, if_neg hb, e1]
theorem commons : tocsinlaw07_CrewCommons.Pure := by
  intro l c _ hl4 hw hc
  have hl : l.length < 4611686018427387904 := by omega
  have hw' : ∀ x ∈ l, 0 ≤ x ∧ x < 4294967296 := fun x hx => wf32 (hw x hx)
  obtain ⟨c0, c1⟩ := wf32 hc
  obtain ⟨g, hg, hgc⟩ := common_ev l hw' hl
  obtain ⟨g', hg', hgc'⟩ := refCommon_ev l hw' hl
  obtain rfl : g' = g := crew_eq hgc' hgc
  refine Ev.rounds (g := fun k => tocsinlaw07_CrewCommons.f k l c) (r := true) ?_
  unfold tocsinlaw07_CrewCommons.f
  refine Ev.bind fixed_ev ?_
  simp only [if_true]
  refine Ev.bind hg (same_loop' l hw' hl c g' c0 true l.length 0 0 (by omega) (by omega) ?_)
  rw [List.drop_zero, Nat.zero_add]
  have hle : l.countP (fun x => x % 64 == c % 64) ≤ l.length := List.countP_le_length
  refine Ev.step (f := fun k => (tocsinref07_Common.f k l).bind fun t160 => (if g' = t160 then (if ((l.countP (fun x => x % 64 == c % 64) : Nat) : Int) ≤ (wrap64 ((l.length : Int) / 2)) then (some true) else ((P.crew_Within.f c g').bind fun t161 => (some t161))) else (none))) (fun k => ?_) (Ev.bind hg' ?_)
  · rw [tocsinlaw07_CrewCommons.l0, if_neg (by omega)]
  · simp only [if_true]
    rw [wrap_in (by omega)]
    by_cases hn : ((l.countP (fun x => x % 64 == c % 64) : Nat) : Int) ≤ (l.length : Int) / 2
    · simp only [if_pos hn]; exact Ev.now true
    · simp only [if_neg hn]
      rw [within_eq c g' c0 c1 hgc.1 (by have := hgc.2.1; omega), Option.bind_some]
      have hwin : win c g' = true := by
        unfold win
        rw [List.all_eq_true]
        intro h hh
        have h0 : 0 ≤ h := by simp at hh; omega
        have h5 : h ≤ 5 := by simp at hh; omega
        by_cases hb : bit c h = true
        · rw [hb, hgc.2.2 h h0 h5]
          have hm : l.countP (fun x => x % 64 == c % 64) ≤ cnt l h := by
            refine List.countP_mono_left fun x hx hxe => ?_
            rw [bit_low x h h0 h5, beq_iff_eq.1 hxe, ← bit_low c h h0 h5]
            exact hb
          have : half l h = true := decide_eq_true (by omega)
          rw [this]; rfl
        · have : bit c h = false := by simpa using hb
          rw [this]; rfl
      rw [hwin]
      exact Ev.now true
end Go.Proofs.YtlaikchebojidaaDoor.Pure
