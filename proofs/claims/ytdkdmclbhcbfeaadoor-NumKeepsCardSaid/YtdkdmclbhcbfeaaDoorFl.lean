/- Numbers by their bits: values, order, rank. No program in sight. -/
import Derived.Laws.FloatBits
namespace Go.Proofs.YtdkdmclbhcbfeaaDoor.Fl
set_option linter.unusedVariables false
set_option linter.unusedSimpArgs false
open Ieee

def rung (b : Nat) : Nat := b % 9223372036854775808
def sg (b : Nat) : Bool := b / 9223372036854775808 % 2 == 1
/-- how many least places a rung stands for -/
def V (r : Nat) : Nat := if r < 4503599627370496 then r else (4503599627370496 + r % 4503599627370496) * 2 ^ (r / 4503599627370496 - 1)
def nan (b : Nat) : Bool := decide (9218868437227405312 < rung b)
def val (b : Nat) : Int := if sg b = true then -(V (rung b) : Int) else V (rung b)

theorem sw : double.signWeight = 9223372036854775808 := by decide +kernel
theorem bn : double.binade = 4503599627370496 := by decide +kernel
theorem ir : double.infRung = 9218868437227405312 := by decide +kernel
theorem lp : double.leastPlace = -1074 := by decide +kernel

theorem read_eq (b : Nat) : double.read b = if rung b < 4503599627370496 then .number (sg b) (rung b) (-1074)
    else if rung b < 9218868437227405312 then .number (sg b) (4503599627370496 + rung b % 4503599627370496) (-1074 + ((rung b / 4503599627370496 - 1 : Nat) : Int))
    else if rung b = 9218868437227405312 then .infinity (sg b) else .nan (sg b) (rung b - 9218868437227405312) := by
  unfold Format.read
  rw [sw, bn, ir, lp]
  rfl

theorem V_mono {r s : Nat} (h : r < s) : V r < V s := by
  unfold V
  by_cases h1 : s < 4503599627370496
  · rw [if_pos (by omega), if_pos h1]; exact h
  · by_cases h2 : r < 4503599627370496
    · rw [if_pos h2, if_neg h1]
      have : 0 < 2 ^ (s / 4503599627370496 - 1) := Nat.two_pow_pos _
      have h3 : 4503599627370496 + s % 4503599627370496 ≤ (4503599627370496 + s % 4503599627370496) * 2 ^ (s / 4503599627370496 - 1) := Nat.le_mul_of_pos_right _ this
      omega
    · rw [if_neg h1, if_neg h2]
      rcases Nat.lt_or_ge (r / 4503599627370496) (s / 4503599627370496) with hq | hq
      · obtain ⟨d, hd⟩ : ∃ d, s / 4503599627370496 - 1 = (r / 4503599627370496 - 1) + 1 + d := ⟨s / 4503599627370496 - 1 - (r / 4503599627370496), by omega⟩
        rw [hd, Nat.pow_add, Nat.pow_succ]
        have hp : 0 < 2 ^ (r / 4503599627370496 - 1) := Nat.two_pow_pos _
        have hp2 : 0 < 2 ^ d := Nat.two_pow_pos _
        have hm : r % 4503599627370496 < 4503599627370496 := Nat.mod_lt _ (by decide)
        generalize 2 ^ (r / 4503599627370496 - 1) = A at *
        generalize 2 ^ d = D at *
        have e1 : (4503599627370496 + r % 4503599627370496) * A < 4503599627370496 * 2 * A := Nat.mul_lt_mul_of_pos_right (by omega) hp
        have e2 : 4503599627370496 * 2 * A ≤ (4503599627370496 + s % 4503599627370496) * (A * 2 * D) := by
          rw [show 4503599627370496 * 2 * A = 4503599627370496 * (A * 2) by rw [Nat.mul_assoc, Nat.mul_comm 2 A]]
          refine Nat.mul_le_mul (by omega) ?_
          exact Nat.le_mul_of_pos_right _ hp2
        omega
      · have e : r / 4503599627370496 = s / 4503599627370496 := by omega
        rw [e]
        exact Nat.mul_lt_mul_of_pos_right (by omega) (Nat.two_pow_pos _)
theorem V_le {r s : Nat} (h : r ≤ s) : V r ≤ V s := by
  rcases Nat.lt_or_ge r s with h1 | h1
  · exact Nat.le_of_lt (V_mono h1)
  · have : r = s := by omega
    rw [this]; exact Nat.le_refl _
theorem V_lt_iff {r s : Nat} : V r < V s ↔ r < s := by
  refine ⟨fun h => ?_, V_mono⟩
  rcases Nat.lt_or_ge r s with h1 | h1
  · exact h1
  · have := V_le h1; omega
theorem V_zero : V 0 = 0 := by decide
theorem V_pos {r : Nat} (h : 0 < r) : 0 < V r := by have := V_mono h; rw [V_zero] at this; exact this

theorem nan_read (b : Nat) : (double.read b).isNaN = nan b := by
  rw [read_eq]; unfold nan
  split
  · rw [decide_eq_false (by omega)]; rfl
  · split
    · rw [decide_eq_false (by omega)]; rfl
    · split
      · rw [decide_eq_false (by omega)]; rfl
      · rw [decide_eq_true (by omega)]; rfl

/-- a number's sign, digits and place -/
theorem read_num {b : Nat} (h : rung b < 9218868437227405312) : ∃ m p : Nat, double.read b = .number (sg b) m (-1074 + (p : Int)) ∧ m * 2 ^ p = V (rung b) := by
  rw [read_eq]; unfold V
  by_cases h1 : rung b < 4503599627370496
  · rw [if_pos h1, if_pos h1]; exact ⟨rung b, 0, by simp, by simp⟩
  · rw [if_neg h1, if_pos h, if_neg h1]; exact ⟨_, _, rfl, rfl⟩
theorem read_inf {b : Nat} (h : rung b = 9218868437227405312) : double.read b = .infinity (sg b) := by
  rw [read_eq, if_neg (by omega), if_neg (by omega), if_pos h]
theorem read_nan {b : Nat} (h : nan b = true) : ∃ t, double.read b = .nan (sg b) t := by
  have h := of_decide_eq_true h
  rw [read_eq, if_neg (by omega), if_neg (by omega), if_neg (by omega)]; exact ⟨_, rfl⟩

theorem c_lt {a b : Int} (h : a < b) : compare a b = .lt := by simp [compare, compareOfLessAndEq, h]
theorem c_eq (a : Int) : compare a a = .eq := by simp [compare, compareOfLessAndEq]
theorem c_gt {a b : Int} (h : b < a) : compare a b = .gt := by
  have h1 : ¬ a < b := by omega
  have h2 : ¬ a = b := by omega
  simp [compare, compareOfLessAndEq, h1, h2]
theorem c_lt' {a b : Int} (h : compare a b = .lt) : a < b := by
  rcases Int.lt_trichotomy a b with h1 | h1 | h1
  · exact h1
  · subst h1; rw [c_eq] at h; cases h
  · rw [c_gt h1] at h; cases h
theorem c_gt' {a b : Int} (h : compare a b = .gt) : b < a := by
  rcases Int.lt_trichotomy a b with h1 | h1 | h1
  · rw [c_lt h1] at h; cases h
  · subst h1; rw [c_eq] at h; cases h
  · exact h1
theorem signed_eq (s : Bool) (m u : Nat) : signed s m u = (if s = true then -((m * 2 ^ u : Nat) : Int) else ((m * 2 ^ u : Nat) : Int)) := by
  unfold signed; rw [Nat.shiftLeft_eq]
theorem compare_scale (a b : Int) (c : Nat) (hc : 0 < c) : compare (a * c) (b * c) = compare a b := by
  have hc' : (0 : Int) < c := by omega
  rcases Int.lt_trichotomy a b with h | h | h
  · rw [c_lt h, c_lt (Int.mul_lt_mul_of_pos_right h hc')]
  · subst h; rw [c_eq, c_eq]
  · rw [c_gt h, c_gt (Int.mul_lt_mul_of_pos_right h hc')]

theorem order_eq (a b : Nat) (ha : nan a = false) (hb : nan b = false) : double.order a b = some (compare (val a) (val b)) := by
  have ha' : rung a ≤ 9218868437227405312 := by have := of_decide_eq_false ha; omega
  have hb' : rung b ≤ 9218868437227405312 := by have := of_decide_eq_false hb; omega
  have hVI : 0 < V 9218868437227405312 := V_pos (by decide)
  unfold Format.order
  rcases Nat.lt_or_ge (rung a) 9218868437227405312 with h1 | h1
  · obtain ⟨m, p, e1, v1⟩ := read_num h1
    rw [e1]
    rcases Nat.lt_or_ge (rung b) 9218868437227405312 with h2 | h2
    · obtain ⟨n, q, e2, v2⟩ := read_num h2
      rw [e2]
      show some (compare (signed (sg a) m ((-1074 + (p : Int)) - min (-1074 + (p : Int)) (-1074 + (q : Int))).toNat) (signed (sg b) n ((-1074 + (q : Int)) - min (-1074 + (p : Int)) (-1074 + (q : Int))).toNat)) = _
      have k1 : ((-1074 + (p : Int)) - min (-1074 + (p : Int)) (-1074 + (q : Int))).toNat = p - min p q := by omega
      have k2 : ((-1074 + (q : Int)) - min (-1074 + (p : Int)) (-1074 + (q : Int))).toNat = q - min p q := by omega
      rw [k1, k2, ← compare_scale _ _ (2 ^ min p q) (Nat.two_pow_pos _), signed_eq, signed_eq]
      have f1 : m * 2 ^ (p - min p q) * 2 ^ min p q = V (rung a) := by rw [Nat.mul_assoc, ← Nat.pow_add, Nat.sub_add_cancel (Nat.min_le_left _ _), v1]
      have f2 : n * 2 ^ (q - min p q) * 2 ^ min p q = V (rung b) := by rw [Nat.mul_assoc, ← Nat.pow_add, Nat.sub_add_cancel (Nat.min_le_right _ _), v2]
      have g1 : (if sg a = true then -((m * 2 ^ (p - min p q) : Nat) : Int) else ((m * 2 ^ (p - min p q) : Nat) : Int)) * ((2 ^ min p q : Nat) : Int) = val a := by
        unfold val; rw [← f1]; split
        · rw [Int.neg_mul, ← Int.natCast_mul]
        · rw [← Int.natCast_mul]
      have g2 : (if sg b = true then -((n * 2 ^ (q - min p q) : Nat) : Int) else ((n * 2 ^ (q - min p q) : Nat) : Int)) * ((2 ^ min p q : Nat) : Int) = val b := by
        unfold val; rw [← f2]; split
        · rw [Int.neg_mul, ← Int.natCast_mul]
        · rw [← Int.natCast_mul]
      rw [g1, g2]
    · have h2' : rung b = 9218868437227405312 := by omega
      rw [read_inf h2']
      show some (if sg b = true then Ordering.gt else Ordering.lt) = _
      have := V_mono h1
      unfold val; rw [h2']
      congr 1
      cases sg b <;> cases sg a <;> simp <;> (symm; first | (refine c_lt ?_; omega) | (refine c_gt ?_; omega))
  · have h1' : rung a = 9218868437227405312 := by omega
    rw [read_inf h1']
    rcases Nat.lt_or_ge (rung b) 9218868437227405312 with h2 | h2
    · obtain ⟨n, q, e2, v2⟩ := read_num h2
      rw [e2]
      show some (if sg a = true then Ordering.lt else Ordering.gt) = _
      have := V_mono h2
      unfold val; rw [h1']
      congr 1
      cases sg a <;> cases sg b <;> simp <;> (symm; first | (refine c_lt ?_; omega) | (refine c_gt ?_; omega))
    · have h2' : rung b = 9218868437227405312 := by omega
      rw [read_inf h2']
      show some (compare (sg b).toNat (sg a).toNat) = _
      unfold val; rw [h1', h2']
      generalize V 9218868437227405312 = z at hVI ⊢
      congr 1
      cases sg a <;> cases sg b <;> simp <;> (symm; first | exact c_eq _ | (refine c_lt ?_; omega) | (refine c_gt ?_; omega))
theorem order_nan (a b : Nat) (h : nan a = true ∨ nan b = true) : double.order a b = none := by
  unfold Format.order
  rcases h with h | h
  · obtain ⟨t, e⟩ := read_nan h; rw [e]; rfl
  · obtain ⟨t, e⟩ := read_nan h; rw [e]; cases double.read a <;> rfl

/-- the number's place in the order -/
def rank (b : Nat) : Nat := if nan b = true then 18446744073709551615 else if sg b = true then 9223372036854775808 - rung b - 1 else 9223372036854775808 + rung b
def kindP (r : Nat) : Int := if r = 9218868437227405312 then 8 else if r < 4503599627370496 then (if r = 0 then 5 else 6) else 7
def kind (b : Nat) : Int := if nan b = true then 9 else if sg b = true then 9 - kindP (rung b) else kindP (rung b)
def cmp3 (a b : Nat) : Int := if rank a < rank b then -1 else if rank b < rank a then 1 else 0
def ltF (a b : Nat) : Bool := double.order a b == some Ordering.lt
def gtF (a b : Nat) : Bool := double.order a b == some Ordering.gt

theorem ltF_eq {a b : Nat} (ha : nan a = false) (hb : nan b = false) : ltF a b = decide (val a < val b) := by
  unfold ltF; rw [order_eq a b ha hb]
  by_cases h : val a < val b
  · rw [decide_eq_true h, c_lt h]; rfl
  · rw [decide_eq_false h]
    have : compare (val a) (val b) ≠ .lt := fun e => h (c_lt' e)
    simpa using this
theorem gtF_eq {a b : Nat} (ha : nan a = false) (hb : nan b = false) : gtF a b = decide (val b < val a) := by
  unfold gtF; rw [order_eq a b ha hb]
  by_cases h : val b < val a
  · rw [decide_eq_true h, c_gt h]; rfl
  · rw [decide_eq_false h]
    have : compare (val a) (val b) ≠ .gt := fun e => h (c_gt' e)
    simpa using this
theorem ltF_nan {a b : Nat} (h : nan a = true ∨ nan b = true) : ltF a b = false := by unfold ltF; rw [order_nan a b h]; rfl
theorem gtF_nan {a b : Nat} (h : nan a = true ∨ nan b = true) : gtF a b = false := by unfold gtF; rw [order_nan a b h]; rfl

theorem val_lt {a b : Nat} (ha : nan a = false) (hb : nan b = false) (hk : kind a = kind b) : val a < val b ↔ rank a < rank b := by
  have ha' : rung a ≤ 9218868437227405312 := by have := of_decide_eq_false ha; omega
  have hb' : rung b ≤ 9218868437227405312 := by have := of_decide_eq_false hb; omega
  have k1 := @V_lt_iff (rung a) (rung b)
  have k2 := @V_lt_iff (rung b) (rung a)
  unfold kind at hk; unfold val rank
  rw [ha, hb] at hk ⊢
  simp only [Bool.false_eq_true, if_false] at hk ⊢
  have p1 : ∀ r, 5 ≤ kindP r ∧ kindP r ≤ 8 := by intro r; unfold kindP; split <;> (try split) <;> (try split) <;> omega
  have q1 := p1 (rung a)
  have q2 := p1 (rung b)
  revert hk
  cases sg a <;> cases sg b <;> simp only [if_true, if_false, Bool.false_eq_true] <;> intro hk <;> omega
theorem kind_mono {a b : Nat} (h : rank a ≤ rank b) : kind a ≤ kind b := by
  have hla : rung a < 9223372036854775808 := Nat.mod_lt _ (by decide)
  have hlb : rung b < 9223372036854775808 := Nat.mod_lt _ (by decide)
  unfold rank at h; unfold kind
  have p1 : ∀ r, 5 ≤ kindP r ∧ kindP r ≤ 8 := by intro r; unfold kindP; split <;> (try split) <;> (try split) <;> omega
  have q1 := p1 (rung a)
  have q2 := p1 (rung b)
  have mono : ∀ {r s : Nat}, r ≤ s → s ≤ 9218868437227405312 → kindP r ≤ kindP s := by
    intro r s h1 h2; unfold kindP; repeat' split
    all_goals omega
  by_cases ha : nan a = true
  · by_cases hb : nan b = true
    · rw [if_pos ha, if_pos hb]; exact Int.le_refl _
    · have hb2 : rung b ≤ 9218868437227405312 := by unfold nan at hb; simpa using hb
      rw [if_pos ha, if_neg hb] at h
      exfalso; revert h; split <;> omega
  · have ha2 : rung a ≤ 9218868437227405312 := by unfold nan at ha; simpa using ha
    rw [if_neg ha] at h ⊢
    by_cases hb : nan b = true
    · rw [if_pos hb]; split <;> omega
    · have hb2 : rung b ≤ 9218868437227405312 := by unfold nan at hb; simpa using hb
      rw [if_neg hb] at h ⊢
      revert h
      cases sg a <;> cases sg b <;> simp only [if_true, if_false, Bool.false_eq_true] <;> intro h
      · exact mono (by omega) hb2
      · omega
      · omega
      · have := mono (r := rung b) (s := rung a) (by omega) ha2; omega
/-- what num.Compare tells -/
def cmpK (a b : Nat) : Int := if kind a < kind b ∨ kind a = kind b ∧ ltF a b = true then -1 else if kind b < kind a ∨ gtF a b = true then 1 else 0
theorem cmp_eq (a b : Nat) : cmpK a b = cmp3 a b := by
  unfold cmpK cmp3
  rcases Int.lt_trichotomy (kind a) (kind b) with h | h | h
  · rw [if_pos (.inl h)]
    have : rank a < rank b := by
      rcases Nat.lt_or_ge (rank a) (rank b) with h' | h'
      · exact h'
      · have := kind_mono h'; omega
    rw [if_pos this]
  · by_cases ha : nan a = true
    · have hb : nan b = true := by
        cases hb : nan b with
        | true => rfl
        | false =>
          exfalso; unfold kind at h; rw [ha, hb] at h
          simp only [if_true, Bool.false_eq_true, if_false] at h
          have p1 : ∀ r, 5 ≤ kindP r ∧ kindP r ≤ 8 := by intro r; unfold kindP; split <;> (try split) <;> (try split) <;> omega
          have := p1 (rung b)
          revert h; split <;> omega
      rw [ltF_nan (.inl ha), gtF_nan (.inl ha), if_neg (fun h1 => h1.elim (fun h1 => by omega) (fun h1 => by cases h1.2)), if_neg (fun h1 => h1.elim (fun h1 => by omega) (fun h1 => by cases h1))]
      have e : rank a = rank b := by unfold rank; rw [if_pos ha, if_pos hb]
      rw [if_neg (by omega), if_neg (by omega)]
    · have ha : nan a = false := by simpa using ha
      have hb : nan b = false := by
        cases hb : nan b with
        | false => rfl
        | true =>
          exfalso; unfold kind at h; rw [ha, hb] at h
          simp only [if_true, Bool.false_eq_true, if_false] at h
          have p1 : ∀ r, 5 ≤ kindP r ∧ kindP r ≤ 8 := by intro r; unfold kindP; split <;> (try split) <;> (try split) <;> omega
          have := p1 (rung a)
          revert h; split <;> omega
      have v1 := val_lt ha hb h
      have v2 := val_lt hb ha h.symm
      rw [ltF_eq ha hb, gtF_eq ha hb]
      simp only [decide_eq_true_eq]
      by_cases h1 : rank a < rank b
      · rw [if_pos (.inr ⟨h, v1.2 h1⟩), if_pos h1]
      · rw [if_neg (fun h2 => h2.elim (fun h2 => by omega) (fun h2 => h1 (v1.1 h2.2))), if_neg h1]
        by_cases h3 : rank b < rank a
        · rw [if_pos (.inr (v2.2 h3)), if_pos h3]
        · rw [if_neg (fun h2 => h2.elim (fun h2 => by omega) (fun h2 => h3 (v2.1 h2))), if_neg h3]
  · rw [if_neg (by rintro (h1 | ⟨h1, _⟩) <;> omega), if_pos (.inl h)]
    have : rank b < rank a := by
      rcases Nat.lt_or_ge (rank b) (rank a) with h' | h'
      · exact h'
      · have := kind_mono h'; omega
    rw [if_neg (by omega), if_pos this]
/-- the one form -/
def oneN (b : Nat) : Nat := if nan b = true then 9221120237041090561 else b
theorem rank_inj {a b : Nat} (ha : a < 18446744073709551616) (hb : b < 18446744073709551616) : rank a = rank b ↔ oneN a = oneN b := by
  have e1 : sg a = decide (9223372036854775808 ≤ a) := by unfold sg; rw [Bool.eq_iff_iff]; simp; omega
  have e2 : sg b = decide (9223372036854775808 ≤ b) := by unfold sg; rw [Bool.eq_iff_iff]; simp; omega
  have r1 : rung a = if 9223372036854775808 ≤ a then a - 9223372036854775808 else a := by unfold rung; split <;> omega
  have r2 : rung b = if 9223372036854775808 ≤ b then b - 9223372036854775808 else b := by unfold rung; split <;> omega
  unfold rank oneN nan
  rw [e1, e2]
  simp only [decide_eq_true_eq]
  rw [r1, r2]
  repeat' split
  all_goals omega
theorem cmp3_neg (a b : Nat) : cmp3 b a = -cmp3 a b := by
  unfold cmp3; repeat' split
  all_goals omega
theorem cmp3_self (a : Nat) : cmp3 a a = 0 := by unfold cmp3; rw [if_neg (by omega), if_neg (by omega)]
end Go.Proofs.YtdkdmclbhcbfeaaDoor.Fl
