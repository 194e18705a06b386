/- Crews of lists of numbers. -/
import Derived.Test.YtlaikchebojidaaDoorPure1
import Derived.Test.YtlaikchebojidaaDoorT2
namespace Go.Proofs.YtlaikchebojidaaDoor.Pure
open Go.RowKit Go.Proofs.YtlaikchebojidaaDoor Go.Proofs.YtlaikchebojidaaDoor.T Go.Proofs.YtlaikchebojidaaDoorW.PrintWords Go.Proofs.YtlaikchebojidaaDoorW.PrintLast Go.Proofs.YtlaikchebojidaaDoorW.PrintMore
set_option linter.unusedVariables false

/-- The number c is the crew of those for whom p says so. -/
def IsCrew (c : Int) (p : Int → Bool) : Prop := 0 ≤ c ∧ c < 64 ∧ ∀ h, 0 ≤ h → h ≤ 5 → bit c h = p h
theorem same_fin : ∀ m n : Fin 64, mem m.val = mem n.val → m = n := by decide +kernel
theorem crew_eq {c d : Int} {p : Int → Bool} (hc : IsCrew c p) (hd : IsCrew d p) : c = d := by
  have e : mem c = mem d := by
    unfold mem
    apply List.filter_congr
    intro h hh
    rw [hc.2.2 h (by simp at hh; omega) (by simp at hh; omega), hd.2.2 h (by simp at hh; omega) (by simp at hh; omega)]
  have h1 := same_fin ⟨c.toNat, by have := hc.2.1; have := hc.1; omega⟩ ⟨d.toNat, by have := hd.2.1; have := hd.1; omega⟩
  simp only [Int.toNat_of_nonneg hc.1, Int.toNat_of_nonneg hd.1] at h1
  have := congrArg Fin.val (h1 e)
  simp at this
  have := hc.1
  have := hd.1
  omega
theorem or_fin : ∀ m : Fin 64, ∀ h : Fin 6, 0 ≤ Go.bits .or .u32 (m.val : Int) (shl .u32 1 (h.val : Int)) ∧ Go.bits .or .u32 (m.val : Int) (shl .u32 1 (h.val : Int)) < 64 ∧ ∀ g : Fin 6, bit (Go.bits .or .u32 (m.val : Int) (shl .u32 1 (h.val : Int))) g.val = (bit m.val g.val || g.val == h.val) := by decide +kernel
theorem or_crew {c h : Int} {p : Int → Bool} (hc : IsCrew c p) (h0 : 0 ≤ h) (h5 : h ≤ 5) : IsCrew (Go.bits .or .u32 c (shl .u32 1 h)) (fun g => p g || g == h) := by
  have := or_fin ⟨c.toNat, by have := hc.2.1; have := hc.1; omega⟩ ⟨h.toNat, by omega⟩
  simp only [Int.toNat_of_nonneg hc.1, Int.toNat_of_nonneg h0] at this
  refine ⟨this.1, this.2.1, fun g g0 g5 => ?_⟩
  have hg := this.2.2 ⟨g.toNat, by omega⟩
  simp only [Int.toNat_of_nonneg g0] at hg
  rw [hg, hc.2.2 g g0 g5]
  congr 1
  rw [Bool.eq_iff_iff, beq_iff_eq, beq_iff_eq]
  omega
theorem any_take (l : List Int) (h : Int) (i : Nat) (hi : i < l.length) : (l.take (i + 1)).contains h = ((l.take i).contains h || h == l.getD i 0) := by
  rw [List.take_succ_eq_append_getElem hi, List.getD_eq_getElem?_getD, List.getElem?_eq_getElem hi, Bool.eq_iff_iff]
  simp only [List.contains_iff_mem, List.mem_append, List.mem_singleton, Bool.or_eq_true, beq_iff_eq, Option.getD_some]
theorem of_loop (l : List Int) (hw : ∀ x ∈ l, -9223372036854775808 ≤ x ∧ x ≤ 9223372036854775807) (hl : l.length < 9223372036854775807) (d : Nat) : ∀ (i : Nat) (c : Int), i + d = l.length → IsCrew c (fun h => (l.take i).contains h) →
    ∃ r, Ev (fun k => P.crew_Of.l0 k c l (l.length : Int) i) r ∧ IsCrew r (fun h => l.contains h) := by
  induction d with
  | zero =>
    intro i c hi hc
    refine ⟨c, Ev.step (f := fun _ => some c) (fun k => ?_) (Ev.now c), ?_⟩
    · rw [P.crew_Of.l0, if_neg (by omega)]
    · rw [List.take_of_length_le (by omega)] at hc; exact hc
  | succ d ih =>
    intro i c hi hc
    have hx := hw (l.getD i 0) (by rw [List.getD_eq_getElem?_getD, List.getElem?_eq_getElem (by omega)]; exact List.getElem_mem _)
    have er : rd l (i : Int) = l.getD i 0 := by simp [rd]
    have e1 : wrap64 ((i : Int) + 1) = ((i + 1 : Nat) : Int) := by rw [wrap_in (by omega)]; omega
    have at_ : (fun h => (l.take (i + 1)).contains h) = fun h => ((l.take i).contains h || h == l.getD i 0) := by funext h; exact any_take l h i (by omega)
    generalize hX : l.getD i 0 = x at *
    by_cases hin : 0 ≤ x ∧ x ≤ 5
    · have e2 : IntKind.u64.wrap x = x := by simp [IntKind.wrap, IntKind.signed, IntKind.bits]; omega
      obtain ⟨r, hr, hcr⟩ := ih (i + 1) _ (by omega) (by rw [at_]; exact or_crew hc hin.1 hin.2)
      refine ⟨r, Ev.step (f := fun k => P.crew_Of.l0 k (Go.bits .or .u32 c (shl .u32 1 x)) l (l.length : Int) ((i + 1 : Nat) : Int)) (fun k => ?_) hr, hcr⟩
      rw [P.crew_Of.l0, if_pos (by omega), if_pos (by omega), if_pos (by omega), er, if_pos (by omega), if_pos (by omega), e2, if_pos hin.1, e1]
    · have hc2 : IsCrew c (fun h => (l.take (i + 1)).contains h) := by
        rw [at_]
        refine ⟨hc.1, hc.2.1, fun g g0 g5 => ?_⟩
        rw [hc.2.2 g g0 g5]
        have : ¬ g = x := by omega
        simp [this]
      obtain ⟨r, hr, hcr⟩ := ih (i + 1) c (by omega) hc2
      refine ⟨r, Ev.step (f := fun k => P.crew_Of.l0 k c l (l.length : Int) ((i + 1 : Nat) : Int)) (fun k => ?_) hr, hcr⟩
      rw [P.crew_Of.l0, if_pos (by omega), if_pos (by omega), if_pos (by omega), er, e1]
      by_cases h6 : x ≥ 0
      · rw [if_pos h6, if_neg (by omega)]
      · rw [if_neg h6]
theorem of_ev (l : List Int) (hw : ∀ x ∈ l, -9223372036854775808 ≤ x ∧ x ≤ 9223372036854775807) (hl : l.length < 9223372036854775807) : ∃ r, Ev (fun k => P.crew_Of.f k l) r ∧ IsCrew r (fun h => l.contains h) := by
  have hz : IsCrew 0 (fun h => (l.take 0).contains h) := ⟨by decide, by decide, fun h h0 h5 => by simp only [List.take_zero, List.contains_nil]; rcases six h0 h5 with rfl | rfl | rfl | rfl | rfl | rfl <;> decide⟩
  exact of_loop l hw hl l.length 0 0 (by omega) hz
/-- The reference's search. -/
theorem find_loop (l : List Int) (hl : l.length < 9223372036854775807) (c b h : Int) (r : Int) (d : Nat) : ∀ i : Nat, i + d = l.length →
    Ev (fun k => tocsinref07_Of.l0 k l (if (l.drop i).contains h then (c + b) % 4294967296 else c) ((b * 2) % 4294967296) (wrap64 (h + 1))) r → Ev (fun k => tocsinref07_Of.l1 k l c b h i) r := by
  induction d with
  | zero =>
    intro i hi hr
    rw [List.drop_of_length_le (by omega)] at hr
    simp only [List.contains_nil, Bool.false_eq_true, if_false] at hr
    refine Ev.step (f := fun k => tocsinref07_Of.l0 k l c ((b * 2) % 4294967296) (wrap64 (h + 1))) (fun k => ?_) hr
    rw [tocsinref07_Of.l1, if_neg (by omega)]
  | succ d ih =>
    intro i hi hr
    have er : rd l (i : Int) = l.getD i 0 := by simp [rd]
    have e1 : wrap64 ((i : Int) + 1) = ((i + 1 : Nat) : Int) := by rw [wrap_in (by omega)]; omega
    have hlt : i < l.length := by omega
    have hd : l.drop i = l.getD i 0 :: l.drop (i + 1) := by
      rw [List.drop_eq_getElem_cons hlt, List.getD_eq_getElem?_getD, List.getElem?_eq_getElem hlt]; rfl
    rw [hd] at hr
    by_cases hx : l.getD i 0 = h
    · have hc : (l.getD i 0 :: l.drop (i + 1)).contains h = true := by rw [List.contains_cons, hx]; simp
      rw [hc, if_pos rfl] at hr
      refine Ev.step (f := fun k => tocsinref07_Of.l0 k l ((c + b) % 4294967296) ((b * 2) % 4294967296) (wrap64 (h + 1))) (fun k => ?_) hr
      rw [tocsinref07_Of.l1, if_pos (by omega), if_pos (by omega), er, if_pos hx]
    · have hc : (l.getD i 0 :: l.drop (i + 1)).contains h = (l.drop (i + 1)).contains h := by
        rw [List.contains_cons]
        have : (h == l.getD i 0) = false := by simp; exact fun e => hx e.symm
        rw [this, Bool.false_or]
      rw [hc] at hr
      refine Ev.step (f := fun k => tocsinref07_Of.l1 k l c b h ((i + 1 : Nat) : Int)) (fun k => ?_) (ih (i + 1) (by omega) hr)
      rw [tocsinref07_Of.l1, if_pos (by omega), if_pos (by omega), er, if_neg hx, e1]
/-- A crew out of six answers. -/
def sum6 (p : Int → Bool) : Int := (if p 0 then 1 else 0) + (if p 1 then 2 else 0) + (if p 2 then 4 else 0) + (if p 3 then 8 else 0) + (if p 4 then 16 else 0) + (if p 5 then 32 else 0)
theorem sum6_crew (p : Int → Bool) : IsCrew (sum6 p) p := by
  unfold sum6
  have key : ∀ b0 b1 b2 b3 b4 b5 : Bool, let c : Int := (if b0 then 1 else 0) + (if b1 then 2 else 0) + (if b2 then 4 else 0) + (if b3 then 8 else 0) + (if b4 then 16 else 0) + (if b5 then 32 else 0)
      0 ≤ c ∧ c < 64 ∧ bit c 0 = b0 ∧ bit c 1 = b1 ∧ bit c 2 = b2 ∧ bit c 3 = b3 ∧ bit c 4 = b4 ∧ bit c 5 = b5 := by decide +kernel
  obtain ⟨a, b, k0, k1, k2, k3, k4, k5⟩ := key (p 0) (p 1) (p 2) (p 3) (p 4) (p 5)
  refine ⟨a, b, fun h h0 h5 => ?_⟩
  rcases six h0 h5 with rfl | rfl | rfl | rfl | rfl | rfl
  · exact k0
  · exact k1
  · exact k2
  · exact k3
  · exact k4
  · exact k5
theorem refOf_ev (l : List Int) (hl : l.length < 9223372036854775807) : Ev (fun k => tocsinref07_Of.f k l) (sum6 fun h => l.contains h) := by
  have hstep : ∀ (c b h r : Int), 0 ≤ h → h ≤ 5 → Ev (fun k => tocsinref07_Of.l0 k l (if l.contains h then (c + b) % 4294967296 else c) ((b * 2) % 4294967296) (h + 1)) r → Ev (fun k => tocsinref07_Of.l0 k l c b h) r := by
    intro c b h r h0 h5 hr
    refine Ev.step (f := fun k => tocsinref07_Of.l1 k l c b h ((0 : Nat) : Int)) (fun k => ?_) (find_loop l hl c b h r l.length 0 (by omega) ?_)
    · rw [tocsinref07_Of.l0, if_pos (by omega)]; rfl
    · rw [wrap_in (by omega), List.drop_zero]; exact hr
  unfold tocsinref07_Of.f
  refine hstep _ _ _ _ (by decide) (by decide) (hstep _ _ _ _ (by decide) (by decide) (hstep _ _ _ _ (by decide) (by decide) (hstep _ _ _ _ (by decide) (by decide) (hstep _ _ _ _ (by decide) (by decide) (hstep _ _ _ _ (by decide) (by decide) ?_)))))
  have e : ∀ b0 b1 b2 b3 b4 b5 : Bool, (let c0 : Int := if b0 then (0 + 1) % 4294967296 else 0
      let c1 : Int := if b1 then (c0 + 1 * 2 % 4294967296) % 4294967296 else c0
      let c2 : Int := if b2 then (c1 + 1 * 2 % 4294967296 * 2 % 4294967296) % 4294967296 else c1
      let c3 : Int := if b3 then (c2 + 1 * 2 % 4294967296 * 2 % 4294967296 * 2 % 4294967296) % 4294967296 else c2
      let c4 : Int := if b4 then (c3 + 1 * 2 % 4294967296 * 2 % 4294967296 * 2 % 4294967296 * 2 % 4294967296) % 4294967296 else c3
      if b5 then (c4 + 1 * 2 % 4294967296 * 2 % 4294967296 * 2 % 4294967296 * 2 % 4294967296 * 2 % 4294967296) % 4294967296 else c4) =
      (if b0 then 1 else 0) + (if b1 then 2 else 0) + (if b2 then 4 else 0) + (if b3 then 8 else 0) + (if b4 then 16 else 0) + (if b5 then 32 else 0) := by decide +kernel
  refine Ev.step (f := fun _ => some (sum6 fun h => l.contains h)) (fun k => ?_) (Ev.now _)
  rw [tocsinref07_Of.l0, if_neg (by decide)]
  exact congrArg some (e _ _ _ _ _ _)
theorem makes : tocsinlaw07_CrewMakes.Pure := by
  intro l _ hl hw
  have hw' : ∀ x ∈ l, -9223372036854775808 ≤ x ∧ x ≤ 9223372036854775807 := fun x hx => wf64 (hw x hx)
  obtain ⟨c, hc, hcr⟩ := of_ev l hw' (by omega)
  have href := refOf_ev l (by omega)
  have e : sum6 (fun h => l.contains h) = c := crew_eq (sum6_crew _) hcr
  rw [e] at href
  refine Ev.rounds (g := fun k => tocsinlaw07_CrewMakes.f k l) (r := true) ?_
  refine Ev.congr (f := fun k => (tocsinlaw07_fixed.f k).bind fun t144 => (if t144 = true then ((P.crew_Of.f k l).bind fun t145 => ((tocsinref07_Of.f k l).bind fun t146 => (if t145 = t146 then ((P.crew_Members.f k t145).bind fun t147 => ((P.crew_Of.f k t147).bind fun t150 => (if t150 = t145 then (some (decide (t145 < 64))) else (none)))) else (none)))) else (none))) (fun k => rfl) ?_
  refine Ev.bind fixed_ev ?_
  simp only [if_true]
  refine Ev.bind hc (Ev.bind href ?_)
  simp only [if_true]
  have h0 := hcr.1
  have h1 := hcr.2.1
  refine Ev.bind (members_ev c h0 (by omega)) (Ev.bind (ofMem_ev c h0 (by omega)) ?_)
  rw [show c % 64 = c by omega]
  simp only [if_true, decide_eq_true h1]
  exact Ev.now true
end Go.Proofs.YtlaikchebojidaaDoor.Pure
