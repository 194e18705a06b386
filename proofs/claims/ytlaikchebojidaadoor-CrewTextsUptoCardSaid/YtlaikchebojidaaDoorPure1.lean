/- Crews as bits: the plain words. -/
import Derived.Test.YtlaikchebojidaaDoorT1
import Derived.Laws.BitsAllLaws
namespace Go.Proofs.YtlaikchebojidaaDoor.Pure
open Go.RowKit Go.Proofs.YtlaikchebojidaaDoor Go.Proofs.YtlaikchebojidaaDoor.T Go.Proofs.YtlaikchebojidaaDoorW.PrintWords Go.Proofs.YtlaikchebojidaaDoorW.PrintLast Go.Proofs.YtlaikchebojidaaDoorW.PrintMore
set_option linter.unusedVariables false

theorem wf32 {a : Int} (h : (Lit.int .u32 a).wf = true) : 0 ≤ a ∧ a < 4294967296 := by
  simp [Lit.wf, IntKind.min, IntKind.max, IntKind.signed, IntKind.bits] at h
  omega
theorem wf64 {a : Int} (h : (Lit.int .i64 a).wf = true) : -9223372036854775808 ≤ a ∧ a ≤ 9223372036854775807 := by
  simp [Lit.wf, IntKind.min, IntKind.max, IntKind.signed, IntKind.bits] at h
  omega
theorem wrap_in {x : Int} (h : -9223372036854775808 ≤ x ∧ x ≤ 9223372036854775807) : wrap64 x = x := by simp [wrap64]; omega
/-- Is the bit of a host set? -/
def bit (c h : Int) : Bool := (c / 2 ^ h.toNat) % 2 == 1
/-- The members, rising. -/
def mem (c : Int) : List Int := [0, 1, 2, 3, 4, 5].filter (bit c)
theorem six {h : Int} (h0 : 0 ≤ h) (h5 : h ≤ 5) : h = 0 ∨ h = 1 ∨ h = 2 ∨ h = 3 ∨ h = 4 ∨ h = 5 := by omega
theorem bit_low (c h : Int) (h0 : 0 ≤ h) (h5 : h ≤ 5) : bit c h = bit (c % 64) h := by
  unfold bit
  rcases six h0 h5 with rfl | rfl | rfl | rfl | rfl | rfl
  · rw [show (2 : Int) ^ (0 : Int).toNat = 1 by decide]; congr 1; omega
  · rw [show (2 : Int) ^ (1 : Int).toNat = 2 by decide]; congr 1; omega
  · rw [show (2 : Int) ^ (2 : Int).toNat = 4 by decide]; congr 1; omega
  · rw [show (2 : Int) ^ (3 : Int).toNat = 8 by decide]; congr 1; omega
  · rw [show (2 : Int) ^ (4 : Int).toNat = 16 by decide]; congr 1; omega
  · rw [show (2 : Int) ^ (5 : Int).toNat = 32 by decide]; congr 1; omega
theorem mem_low (c : Int) : mem c = mem (c % 64) := by
  unfold mem
  apply List.filter_congr
  intro h hh
  refine bit_low c h ?_ ?_ <;> (simp at hh; omega)
theorem tdiv2 {a : Int} (h : 0 ≤ a) : a.tdiv 2 = a / 2 := Int.tdiv_eq_ediv_of_nonneg h
theorem tmod64 {a : Int} (h : 0 ≤ a) : Int.tmod a 64 = a % 64 := Int.tmod_eq_emod_of_nonneg h

theorem has_loop (h : Int) (h5 : h ≤ 5) (d : Nat) : ∀ (c i : Int), 0 ≤ c → c < 4294967296 → 0 ≤ i → i + d = h → ∀ k, tocsinref07_Has.l0 (k + d + 1) c h i = some ((c / 2 ^ d) % 2 == 1) := by
  induction d with
  | zero =>
    intro c i c0 c1 i0 hi k
    simp only [tocsinref07_Has.l0]
    rw [if_neg (by omega), Int.tmod_eq_emod_of_nonneg c0]
    simp
  | succ d ih =>
    intro c i c0 c1 i0 hi k
    rw [show k + (d + 1) + 1 = (k + d + 1) + 1 by omega, tocsinref07_Has.l0]
    have e1 : wrap64 (i + 1) = i + 1 := wrap_in (by omega)
    have e2 : Int.tdiv c 2 % 4294967296 = c / 2 := by rw [tdiv2 c0]; omega
    rw [if_pos (by omega), e1, e2, ih (c / 2) (i + 1) (by omega) (by omega) (by omega) (by omega) k]
    congr 2
    rw [Int.pow_succ, Int.mul_comm, Int.ediv_ediv_of_nonneg (by omega)]
theorem refHas_ev (c h : Int) (c0 : 0 ≤ c) (c1 : c < 4294967296) (h0 : 0 ≤ h) (h5 : h ≤ 5) : Ev (fun k => tocsinref07_Has.f k c h) (bit c h) := by
  refine ⟨h.toNat + 2, fun k hk => ?_⟩
  obtain ⟨m, rfl⟩ : ∃ m, k = (m + h.toNat + 1) + 1 := ⟨k - h.toNat - 2, by omega⟩
  show tocsinref07_Has.f (m + h.toNat + 1 + 1) c h = _
  unfold tocsinref07_Has.f
  rw [if_neg (by omega), decide_eq_false (by omega)]
  simp only [tocsinref07_Has.j0]
  rw [if_neg (by decide)]
  exact has_loop h h5 h.toNat c 0 c0 c1 (by omega) (by omega) m
theorem refHas_out (c h : Int) (h0 : h < 0 ∨ 5 < h) : Ev (fun k => tocsinref07_Has.f k c h) false := by
  refine ⟨1, fun k hk => ?_⟩
  obtain ⟨m, rfl⟩ : ∃ m, k = m + 1 := ⟨k - 1, by omega⟩
  show tocsinref07_Has.f (m + 1) c h = _
  unfold tocsinref07_Has.f
  by_cases h1 : h < 0
  · rw [if_pos h1]; simp only [tocsinref07_Has.j0]; rw [if_pos trivial]
  · rw [if_neg h1, decide_eq_true (by omega)]; simp only [tocsinref07_Has.j0]; rw [if_pos trivial]
theorem refMembers_loop (c : Int) (c0 : 0 ≤ c) (c1 : c < 4294967296) (d : Nat) : ∀ (i : Int) (l : List Int), i + d = 6 → 0 ≤ i → (l.length : Int) ≤ i →
    Ev (fun k => tocsinref07_Members.l0 k c l i) (l ++ ([0, 1, 2, 3, 4, 5].drop i.toNat).filter (bit c)) := by
  induction d with
  | zero =>
    intro i l hi i0 hl
    obtain rfl : i = 6 := by omega
    refine Ev.step (f := fun k => some l) (fun k => ?_) ?_
    · simp only [tocsinref07_Members.l0]; rw [if_neg (by omega)]
    · simpa using Ev.now l
  | succ d ih =>
    intro i l hi i0 hl
    have e1 : wrap64 (i + 1) = i + 1 := wrap_in (by omega)
    have hd : ([0, 1, 2, 3, 4, 5] : List Int).drop i.toNat = i :: ([0, 1, 2, 3, 4, 5] : List Int).drop (i + 1).toNat := by
      rcases six i0 (by omega) with rfl | rfl | rfl | rfl | rfl | rfl <;> rfl
    rw [hd, List.filter_cons]
    refine Ev.step (f := fun k => (tocsinref07_Has.f k c i).bind fun t => if t = true then (if l.length < 17592186044416 then tocsinref07_Members.l0 k c (l ++ [i]) (i + 1) else none) else tocsinref07_Members.l0 k c l (i + 1)) (fun k => ?_) ?_
    · simp only [tocsinref07_Members.l0]; rw [if_pos (by omega), e1]
    · refine Ev.bind (refHas_ev c i c0 c1 i0 (by omega)) ?_
      by_cases hb : bit c i = true
      · have hlen : l.length < 17592186044416 := by omega
        simp only [hb, if_true, if_pos hlen]
        have := ih (i + 1) (l ++ [i]) (by omega) (by omega) (by simp; omega)
        simpa using this
      · have hb' : bit c i = false := by simpa using hb
        simp only [hb', if_false]
        simpa using ih (i + 1) l (by omega) (by omega) (by omega)
theorem refMembers_ev (c : Int) (c0 : 0 ≤ c) (c1 : c < 4294967296) : Ev (fun k => tocsinref07_Members.f k c) (mem c) := by
  have := refMembers_loop c c0 c1 6 0 [] (by omega) (by omega) (by simp)
  simpa [mem, tocsinref07_Members.f] using this
theorem and63 {c : Int} (c0 : 0 ≤ c) (c1 : c < 4294967296) : Go.bits .and .u32 c 63 = c % 64 := by
  obtain ⟨n, rfl⟩ := Int.eq_ofNat_of_zero_le c0
  have h := bits_and_u32_nat n 63 (by omega) (by decide)
  rw [show ((63 : Nat) : Int) = 63 from rfl] at h
  rw [h, show (63 : Nat) = 2 ^ 6 - 1 by decide, Nat.and_two_pow_sub_one_eq_mod]
  omega
theorem below64 (f : Int → Prop) (h : ∀ n : Fin 64, f (n.val : Int)) {m : Int} (h0 : 0 ≤ m) (h1 : m < 64) : f m := by
  have := h ⟨m.toNat, by omega⟩
  simpa [Int.toNat_of_nonneg h0] using this
theorem members_fin : ∀ n : Fin 64, P.crew_Members.l0 10 (n.val : Int) [] = some (mem n.val) := by decide +kernel
theorem members_ev (c : Int) (c0 : 0 ≤ c) (c1 : c < 4294967296) : Ev (fun k => P.crew_Members.f k c) (mem c) := by
  refine Ev.of (fun k => P.crew_Members.mono c k) (k := 10) ?_
  unfold P.crew_Members.f
  rw [and63 c0 c1, mem_low]
  exact below64 (fun m => P.crew_Members.l0 10 m [] = some (mem m)) members_fin (by omega) (by omega)
theorem count_fin : ∀ n : Fin 64, Hd.bits_OnesCount32.f (n.val : Int) = some ((mem n.val).length : Int) := by decide +kernel
theorem count_eq (c : Int) (c0 : 0 ≤ c) (c1 : c < 4294967296) : P.crew_Count.f c = some ((mem c).length : Int) := by
  unfold P.crew_Count.f
  rw [and63 c0 c1, mem_low, below64 (fun m => Hd.bits_OnesCount32.f m = some ((mem m).length : Int)) count_fin (by omega) (by omega)]
  rfl
theorem of_fin : ∀ n : Fin 64, P.crew_Of.f 10 (mem n.val) = some (n.val : Int) := by decide +kernel
theorem ofMem_ev (c : Int) (c0 : 0 ≤ c) (c1 : c < 4294967296) : Ev (fun k => P.crew_Of.f k (mem c)) (c % 64) := by
  refine Ev.of (fun k => P.crew_Of.mono _ k) (k := 10) ?_
  rw [mem_low]
  exact below64 (fun m => P.crew_Of.f 10 (mem m) = some m) of_fin (by omega) (by omega)
/-- The first member, or none. -/
def first (c : Int) : Int := if (mem c).length = 0 then -1 else rd (mem c) 0
theorem ctz_low (x : Nat) (h : x % 64 ≠ 0) : Lib.ctz 32 x = Lib.ctz 32 (x % 64) := by
  have hx : x ≠ 0 := by omega
  unfold Lib.ctz
  rw [if_neg hx, if_neg h]
  simp only [Lib.ctzFrom]
  have b0 : x % 64 % 2 = x % 2 := by omega
  have b1 : x % 64 / 2 % 2 = x / 2 % 2 := by omega
  have b2 : x % 64 / 2 / 2 % 2 = x / 2 / 2 % 2 := by omega
  have b3 : x % 64 / 2 / 2 / 2 % 2 = x / 2 / 2 / 2 % 2 := by omega
  have b4 : x % 64 / 2 / 2 / 2 / 2 % 2 = x / 2 / 2 / 2 / 2 % 2 := by omega
  have b5 : x % 64 / 2 / 2 / 2 / 2 / 2 % 2 = x / 2 / 2 / 2 / 2 / 2 % 2 := by omega
  rw [b0, b1, b2, b3, b4, b5]
  by_cases c0 : x % 2 = 1
  · rw [if_pos c0, if_pos c0]
  rw [if_neg c0, if_neg c0]
  by_cases c1 : x / 2 % 2 = 1
  · rw [if_pos c1, if_pos c1]
  rw [if_neg c1, if_neg c1]
  by_cases c2 : x / 2 / 2 % 2 = 1
  · rw [if_pos c2, if_pos c2]
  rw [if_neg c2, if_neg c2]
  by_cases c3 : x / 2 / 2 / 2 % 2 = 1
  · rw [if_pos c3, if_pos c3]
  rw [if_neg c3, if_neg c3]
  by_cases c4 : x / 2 / 2 / 2 / 2 % 2 = 1
  · rw [if_pos c4, if_pos c4]
  rw [if_neg c4, if_neg c4]
  by_cases c5 : x / 2 / 2 / 2 / 2 / 2 % 2 = 1
  · rw [if_pos c5, if_pos c5]
  · exfalso
    clear b0 b1 b2 b3 b4 b5
    omega
theorem first_fin : ∀ n : Fin 64, (if n.val = 0 then (-1 : Int) else (Lib.ctz 32 n.val : Nat)) = first n.val := by decide +kernel
theorem first_eq (c : Int) (c0 : 0 ≤ c) (c1 : c < 4294967296) : P.crew_First.f c = some (first c) := by
  have hf := first_fin ⟨(c % 64).toNat, by omega⟩
  have e : first c = first (c % 64) := by unfold first; rw [mem_low]
  simp only [Int.toNat_of_nonneg (show 0 ≤ c % 64 by omega)] at hf
  rw [e, ← hf]
  unfold P.crew_First.f
  rw [and63 c0 c1]
  by_cases hz : c % 64 = 0
  · rw [if_pos hz, if_pos (by omega)]
  · rw [if_neg hz, if_neg (by omega)]
    unfold Hd.bits_TrailingZeros32.f
    rw [if_pos (by omega)]
    simp only [Option.bind_some]
    have : (c % 64).toNat = c.toNat % 64 := by omega
    rw [this, ctz_low c.toNat (by omega)]
theorem has_eq (c h : Int) (c0 : 0 ≤ c) (c1 : c < 4294967296) (h0 : -9223372036854775808 ≤ h) (h1 : h ≤ 9223372036854775807) : P.crew_Has.f c h = some (if 0 ≤ h ∧ h ≤ 5 then bit c h else false) := by
  unfold P.crew_Has.f
  by_cases h2 : h ≥ 0
  · rw [if_pos h2]
    by_cases h3 : h < 6
    · have e : IntKind.u64.wrap h = h := by simp [IntKind.wrap, IntKind.signed, IntKind.bits]; omega
      rw [if_pos h3, e, if_pos h2, if_pos ⟨h2, by omega⟩]
      have es : shr .u32 c h = c / 2 ^ h.toNat := by unfold shr; rw [Nat.min_eq_left (by simp [IntKind.bits]; omega)]
      rw [es]
      have hd : 0 ≤ c / 2 ^ h.toNat := Int.ediv_nonneg c0 (by have : (0 : Int) < 2 ^ h.toNat := Int.pow_pos (by decide)
                                                              omega)
      have hl : c / 2 ^ h.toNat ≤ c := Int.ediv_le_self _ c0
      have hk : ∀ z : Int, 0 ≤ z → z < 4294967296 → Go.bits .and .u32 z 1 = z % 2 := by
        intro z z0 z1
        obtain ⟨n, rfl⟩ := Int.eq_ofNat_of_zero_le z0
        have ha := bits_and_u32_nat n 1 (by omega) (by decide)
        rw [show ((1 : Nat) : Int) = 1 from rfl] at ha
        rw [ha, Nat.and_one_is_mod]
        omega
      rw [hk _ hd (by omega)]
      rfl
    · rw [if_neg h3, if_neg (by omega)]
  · rw [if_neg h2, if_neg (by omega)]
theorem refHas_all (c h : Int) (c0 : 0 ≤ c) (c1 : c < 4294967296) : Ev (fun k => tocsinref07_Has.f k c h) (if 0 ≤ h ∧ h ≤ 5 then bit c h else false) := by
  by_cases hh : 0 ≤ h ∧ h ≤ 5
  · rw [if_pos hh]; exact refHas_ev c h c0 c1 hh.1 hh.2
  · rw [if_neg hh]; exact refHas_out c h (by omega)
theorem same_loop (l : List Int) (hl : l.length < 9223372036854775807) (d : Nat) : ∀ i : Int, 0 ≤ i → i + d = l.length → Ev (fun k => tocsinref07_Same.l0 k l l i) true := by
  induction d with
  | zero =>
    intro i i0 hi
    refine Ev.step (f := fun _ => some true) (fun k => ?_) (Ev.now true)
    rw [tocsinref07_Same.l0, if_neg (by omega)]
  | succ d ih =>
    intro i i0 hi
    refine Ev.step (f := fun k => tocsinref07_Same.l0 k l l (i + 1)) (fun k => ?_) (ih (i + 1) (by omega) (by omega))
    rw [tocsinref07_Same.l0, if_pos (by omega), if_pos i0, if_pos (by omega), if_pos rfl, wrap_in (by omega)]
theorem same_ev (l : List Int) (hl : l.length < 9223372036854775807) : Ev (fun k => tocsinref07_Same.f k l l) true := by
  have := same_loop l hl l.length 0 (by omega) (by omega)
  simpa [tocsinref07_Same.f] using this
theorem mem_len (c : Int) : (mem c).length ≤ 6 := by
  unfold mem
  exact List.length_filter_le _ _
theorem fixed_ev : Ev (fun k => tocsinlaw07_fixed.f k) true := Ev.of (fun k => tocsinlaw07_fixed.mono k) (k := 40) (by decide +kernel)
theorem tells : tocsinlaw07_CrewTells.Pure := by
  intro c h hc hh
  obtain ⟨c0, c1⟩ := wf32 hc
  obtain ⟨h0, h1⟩ := wf64 hh
  refine Ev.rounds (g := fun k => tocsinlaw07_CrewTells.f k c h) (r := true) ?_
  have hj : Ev (fun k => tocsinlaw07_CrewTells.j0 k c h (mem c) (first c)) true := by
    refine Ev.step (f := fun k => (P.crew_Members.f k c).bind fun t134 => ((tocsinref07_Same.f k t134 (mem c)).bind fun t137 => (if t137 = true then ((P.crew_Count.f c).bind fun t138 => (if t138 = ((mem c).length : Int) then ((P.crew_First.f c).bind fun t139 => (if t139 = first c then ((P.crew_Has.f c h).bind fun t140 => ((tocsinref07_Has.f k c h).bind fun t141 => (if (t140 == t141) = true then ((P.crew_Of.f k (mem c)).bind fun t142 => (some (t142 == (Int.tmod c 64)))) else (none)))) else (none))) else (none))) else (none)))) (fun k => by rw [tocsinlaw07_CrewTells.j0]) ?_
    refine Ev.bind (members_ev c c0 c1) ?_
    refine Ev.bind (same_ev (mem c) (by have := mem_len c; omega)) ?_
    simp only [if_true, count_eq c c0 c1, first_eq c c0 c1, has_eq c h c0 c1 h0 h1, Option.bind_some]
    refine Ev.bind (refHas_all c h c0 c1) ?_
    simp only [beq_self_eq_true, if_true]
    refine Ev.congr (f := fun k => (P.crew_Of.f k (mem c)).bind fun t => some (t == Int.tmod c 64)) (fun k => rfl) ?_
    refine Ev.bind (ofMem_ev c c0 c1) ?_
    rw [tmod64 c0]
    simpa using Ev.now true
  refine Ev.congr (f := fun k => (tocsinlaw07_fixed.f k).bind fun t129 => (if t129 = true then ((tocsinref07_Members.f k c).bind fun t130 => (if (t130.length : Int) > 0 then (if 0 < (t130.length : Int) then (tocsinlaw07_CrewTells.j0 k c h t130 (rd t130 0)) else (none)) else (tocsinlaw07_CrewTells.j0 k c h t130 (-1)))) else (none))) (fun k => rfl) ?_
  refine Ev.bind fixed_ev ?_
  simp only [if_true]
  refine Ev.bind (refMembers_ev c c0 c1) ?_
  unfold first at hj
  by_cases hz : (mem c).length = 0
  · rw [if_pos hz] at hj
    have : ¬ ((mem c).length : Int) > 0 := by omega
    simp only [if_neg this]
    exact hj
  · rw [if_neg hz] at hj
    have : ((mem c).length : Int) > 0 := by omega
    simp only [if_pos this]
    exact hj
end Go.Proofs.YtlaikchebojidaaDoor.Pure
