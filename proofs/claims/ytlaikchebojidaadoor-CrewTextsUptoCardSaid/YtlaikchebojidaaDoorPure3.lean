/- Crews within crews, and crews parted. -/
import Derived.Test.YtlaikchebojidaaDoorPure1
import Derived.Test.YtlaikchebojidaaDoorT3
namespace Go.Proofs.YtlaikchebojidaaDoor.Pure
open Go.RowKit Go.Proofs.YtlaikchebojidaaDoor Go.Proofs.YtlaikchebojidaaDoor.T Go.Proofs.YtlaikchebojidaaDoorW.PrintWords Go.Proofs.YtlaikchebojidaaDoorW.PrintLast Go.Proofs.YtlaikchebojidaaDoorW.PrintMore
set_option linter.unusedVariables false

/-- Is each host of the one a host of the other? -/
def win (a b : Int) : Bool := [0, 1, 2, 3, 4, 5].all fun h => !bit a h || bit b h
theorem win_low (a b : Int) : win a b = win (a % 64) (b % 64) := by
  unfold win
  simp only [List.all_cons, List.all_nil]
  rw [bit_low a 0 (by decide) (by decide), bit_low a 1 (by decide) (by decide), bit_low a 2 (by decide) (by decide), bit_low a 3 (by decide) (by decide), bit_low a 4 (by decide) (by decide), bit_low a 5 (by decide) (by decide),
    bit_low b 0 (by decide) (by decide), bit_low b 1 (by decide) (by decide), bit_low b 2 (by decide) (by decide), bit_low b 3 (by decide) (by decide), bit_low b 4 (by decide) (by decide), bit_low b 5 (by decide) (by decide)]
theorem win_fin : ∀ m n : Fin 64, ((((m.val &&& (63 - n.val) : Nat) : Int)) == 0) = win m.val n.val := by decide +kernel
theorem within_eq (a b : Int) (a0 : 0 ≤ a) (a1 : a < 4294967296) (b0 : 0 ≤ b) (b1 : b < 4294967296) : P.crew_Within.f a b = some (win a b) := by
  obtain ⟨m, rfl⟩ := Int.eq_ofNat_of_zero_le a0
  obtain ⟨n, rfl⟩ := Int.eq_ofNat_of_zero_le b0
  unfold P.crew_Within.f
  rw [u32_andNot_nat m n (by omega) (by omega), and63 (by omega) (by have : m &&& (4294967295 - n) ≤ m := Nat.and_le_left
                                                                     omega), win_low]
  have h1 := win_fin ⟨m % 64, by omega⟩ ⟨n % 64, by omega⟩
  have e : (((m &&& (4294967295 - n) : Nat) : Int) % 64) = (((m % 64 &&& (63 - n % 64) : Nat)) : Int) := by
    have h2 : (m &&& (4294967295 - n)) % 2 ^ 6 = m % 2 ^ 6 &&& (4294967295 - n) % 2 ^ 6 := Nat.and_mod_two_pow
    have h3 : (4294967295 - n) % 2 ^ 6 = 63 - n % 64 := by omega
    rw [h3, show (2 : Nat) ^ 6 = 64 from rfl] at h2
    omega
  rw [e]
  have em : (((m % 64 : Nat)) : Int) = (m : Int) % 64 := by omega
  have en : (((n % 64 : Nat)) : Int) = (n : Int) % 64 := by omega
  simp only [em, en] at h1
  rw [h1]
theorem or_low (a b : Int) (a0 : 0 ≤ a) (a1 : a < 4294967296) (b0 : 0 ≤ b) (b1 : b < 4294967296) :
    0 ≤ Go.bits .or .u32 a b ∧ Go.bits .or .u32 a b < 4294967296 ∧ Go.bits .or .u32 a b % 64 = (((a % 64).toNat ||| (b % 64).toNat : Nat) : Int) := by
  obtain ⟨m, rfl⟩ := Int.eq_ofNat_of_zero_le a0
  obtain ⟨n, rfl⟩ := Int.eq_ofNat_of_zero_le b0
  rw [u32_or_nat m n (by omega) (by omega)]
  have hlt : m ||| n < 2 ^ 32 := Nat.or_lt_two_pow (by omega) (by omega)
  have h2 : (m ||| n) % 2 ^ 6 = m % 2 ^ 6 ||| n % 2 ^ 6 := Nat.or_mod_two_pow
  have em : ((m : Int) % 64).toNat = m % 2 ^ 6 := by omega
  have en : ((n : Int) % 64).toNat = n % 2 ^ 6 := by omega
  rw [em, en, ← h2]
  omega
theorem and_low (a b : Int) (a0 : 0 ≤ a) (a1 : a < 4294967296) (b0 : 0 ≤ b) (b1 : b < 4294967296) :
    0 ≤ Go.bits .and .u32 a b ∧ Go.bits .and .u32 a b < 4294967296 ∧ Go.bits .and .u32 a b % 64 = (((a % 64).toNat &&& (b % 64).toNat : Nat) : Int) := by
  obtain ⟨m, rfl⟩ := Int.eq_ofNat_of_zero_le a0
  obtain ⟨n, rfl⟩ := Int.eq_ofNat_of_zero_le b0
  rw [bits_and_u32_nat m n (by omega) (by omega)]
  have hlt : m &&& n ≤ m := Nat.and_le_left
  have h2 : (m &&& n) % 2 ^ 6 = m % 2 ^ 6 &&& n % 2 ^ 6 := Nat.and_mod_two_pow
  have em : ((m : Int) % 64).toNat = m % 2 ^ 6 := by omega
  have en : ((n : Int) % 64).toNat = n % 2 ^ 6 := by omega
  rw [em, en, ← h2]
  omega
theorem two64 (f : Int → Int → Prop) (h : ∀ m n : Fin 64, f m.val n.val) (a b : Int) : f (a % 64) (b % 64) := by
  have := h ⟨(a % 64).toNat, by omega⟩ ⟨(b % 64).toNat, by omega⟩
  simpa [Int.toNat_of_nonneg (show 0 ≤ a % 64 by omega), Int.toNat_of_nonneg (show 0 ≤ b % 64 by omega)] using this
theorem fin_or : ∀ m n : Fin 64, win m.val (((m.val : Int).toNat ||| (n.val : Int).toNat : Nat) : Int) = true := by decide +kernel
theorem fin_and : ∀ m n : Fin 64, win (((m.val : Int).toNat &&& (n.val : Int).toNat : Nat) : Int) m.val = true := by decide +kernel
theorem fin_le : ∀ m n : Fin 64, win m.val n.val = true → (mem m.val).length ≤ (mem n.val).length := by decide +kernel
theorem all_mem (a b : Int) : (mem a).all (bit b) = win a b := by
  unfold mem win
  rw [List.all_filter]
theorem withins_loop (a b : Int) (b0 : 0 ≤ b) (b1 : b < 4294967296) (l : List Int) (hl : l.length ≤ 6) (hm : ∀ h ∈ l, 0 ≤ h ∧ h ≤ 5) (d : Nat) : ∀ (i : Nat) (p : Bool), i + d = l.length →
    (∀ q, q = (p && (l.drop i).all (bit b)) → Ev (fun k => tocsinlaw07_CrewWithins.l0 k a b q l (l.length : Int) (l.length : Int)) true) →
    Ev (fun k => tocsinlaw07_CrewWithins.l0 k a b p l (l.length : Int) i) true := by
  induction d with
  | zero =>
    intro i p hi h
    obtain rfl : i = l.length := by omega
    exact h p (by simp)
  | succ d ih =>
    intro i p hi h
    have hlt : i < l.length := by omega
    have er : rd l (i : Int) = l.getD i 0 := by simp [rd]
    have e1 : wrap64 ((i : Int) + 1) = ((i + 1 : Nat) : Int) := by rw [wrap_in (by omega)]; omega
    have hd : l.drop i = l.getD i 0 :: l.drop (i + 1) := by
      rw [List.drop_eq_getElem_cons hlt, List.getD_eq_getElem?_getD, List.getElem?_eq_getElem hlt]; rfl
    have hx := hm (l.getD i 0) (by rw [List.getD_eq_getElem?_getD, List.getElem?_eq_getElem hlt]; exact List.getElem_mem _)
    rw [hd] at h
    cases p with
    | true =>
      refine Ev.step (f := fun k => (tocsinref07_Has.f k b (l.getD i 0)).bind fun t => tocsinlaw07_CrewWithins.l0 k a b t l (l.length : Int) ((i + 1 : Nat) : Int)) (fun k => ?_) ?_
      · rw [tocsinlaw07_CrewWithins.l0, if_pos (by omega), if_pos (by omega), if_pos (by omega), if_pos rfl, er, e1]
      · refine Ev.bind (refHas_ev b _ b0 b1 hx.1 hx.2) (ih (i + 1) _ (by omega) fun q hq => h q ?_)
        rw [hq, List.all_cons]; simp
    | false =>
      refine Ev.step (f := fun k => tocsinlaw07_CrewWithins.l0 k a b false l (l.length : Int) ((i + 1 : Nat) : Int)) (fun k => ?_) (ih (i + 1) _ (by omega) fun q hq => h q ?_)
      · rw [tocsinlaw07_CrewWithins.l0, if_pos (by omega), if_pos (by omega), if_pos (by omega), if_neg (by decide), e1]
      · rw [hq]; simp
theorem mem_range (c : Int) : ∀ h ∈ mem c, 0 ≤ h ∧ h ≤ 5 := by
  intro h hh
  unfold mem at hh
  have := (List.mem_filter.1 hh).1
  simp at this
  omega
theorem withins : tocsinlaw07_CrewWithins.Pure := by
  intro a b ha hb
  obtain ⟨a0, a1⟩ := wf32 ha
  obtain ⟨b0, b1⟩ := wf32 hb
  obtain ⟨o0, o1, o2⟩ := or_low a b a0 a1 b0 b1
  obtain ⟨n0, n1, n2⟩ := and_low a b a0 a1 b0 b1
  refine Ev.rounds (g := fun k => tocsinlaw07_CrewWithins.f k a b) (r := true) ?_
  refine Ev.congr (f := fun k => (tocsinlaw07_fixed.f k).bind fun t188 => (if t188 = true then ((tocsinref07_Members.f k a).bind fun t189 => (tocsinlaw07_CrewWithins.l0 k a b true t189 (t189.length : Int) ((0 : Nat) : Int))) else (none))) (fun k => rfl) ?_
  refine Ev.bind fixed_ev ?_
  simp only [if_true]
  refine Ev.bind (refMembers_ev a a0 a1) (withins_loop a b b0 b1 (mem a) (mem_len a) (mem_range a) (mem a).length 0 true (by omega) fun q hq => ?_)
  rw [List.drop_zero, Bool.true_and, all_mem] at hq
  subst hq
  have w1 : win a (Go.bits .or .u32 a b) = true := by
    rw [win_low, o2]
    have := two64 (fun m n => win m (((m.toNat ||| n.toNat : Nat) : Int)) = true) fin_or a b
    rw [win_low] at this
    simp only [Int.emod_emod_of_dvd _ (Int.dvd_refl 64)] at this
    have e : (((((a % 64).toNat ||| (b % 64).toNat : Nat) : Int)) % 64) = (((a % 64).toNat ||| (b % 64).toNat : Nat) : Int) := by rw [← o2]; omega
    rw [e] at this
    exact this
  have w2 : win (Go.bits .and .u32 a b) a = true := by
    rw [win_low, n2]
    have := two64 (fun m n => win (((m.toNat &&& n.toNat : Nat) : Int)) m = true) fin_and a b
    rw [win_low] at this
    simp only [Int.emod_emod_of_dvd _ (Int.dvd_refl 64)] at this
    have e : (((((a % 64).toNat &&& (b % 64).toNat : Nat) : Int)) % 64) = (((a % 64).toNat &&& (b % 64).toNat : Nat) : Int) := by rw [← n2]; omega
    rw [e] at this
    exact this
  have w3 : win a b = true → (mem a).length ≤ (mem b).length := by
    rw [win_low, mem_low a, mem_low b]
    exact two64 (fun m n => win m n = true → (mem m).length ≤ (mem n).length) fin_le a b
  refine Ev.step (f := fun _ => some true) (fun k => ?_) (Ev.now true)
  rw [tocsinlaw07_CrewWithins.l0, if_neg (by omega), within_eq a b a0 a1 b0 b1, within_eq _ _ a0 a1 o0 o1, within_eq _ _ n0 n1 a0 a1, w1, w2, count_eq a a0 a1, count_eq b b0 b1]
  simp only [Option.bind_some, beq_self_eq_true, if_true]
  by_cases hw : win a b = true
  · rw [if_pos hw]
    have := w3 hw
    simp only [Option.some.injEq, decide_eq_true_eq]
    omega
  · rw [if_neg hw]
end Go.Proofs.YtlaikchebojidaaDoor.Pure
