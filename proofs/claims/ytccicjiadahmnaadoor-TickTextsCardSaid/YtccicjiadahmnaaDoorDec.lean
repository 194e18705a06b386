/- Numerals: the plain laws of decimal digits. -/
import Derived.Lib.ItoaNum
import Derived.Lib.ParseIntBCases
namespace Go.Proofs.YtccicjiadahmnaaDoor.Dec
open Go.Lib
set_option linter.unusedVariables false

/-- A decimal digit. -/
def Dig (c : UInt8) : Prop := 48 ≤ c.toNat ∧ c.toNat ≤ 57
/-- What digits spell, behind what was spelt. -/
def val (acc : Nat) (l : List UInt8) : Nat := l.foldl (fun a c => a * 10 + (c.toNat - 48)) acc
theorem val_nil (acc : Nat) : val acc [] = acc := rfl
theorem val_cons (acc : Nat) (c : UInt8) (l : List UInt8) : val acc (c :: l) = val (acc * 10 + (c.toNat - 48)) l := by unfold val; rw [List.foldl_cons]
theorem val_append (acc : Nat) (a b : List UInt8) : val acc (a ++ b) = val (val acc a) b := by unfold val; rw [List.foldl_append]
theorem val_ge (l : List UInt8) : ∀ acc : Nat, acc ≤ val acc l := by
  induction l with
  | nil => intro acc; exact Nat.le_refl _
  | cons c l ih =>
    intro acc
    rw [val_cons]
    have := ih (acc * 10 + (c.toNat - 48))
    omega
theorem parse_digits (l : List UInt8) : ∀ acc : Nat, (∀ c ∈ l, Dig c) → val acc l ≤ 18446744073709551615 → parseUintM 18446744073709551615 acc l = .ok (val acc l) := by
  induction l with
  | nil => intro acc _ _; rfl
  | cons c l ih =>
    intro acc hd hv
    rw [val_cons] at hv ⊢
    have h1 := hd c (List.mem_cons_self ..)
    have h2 := val_ge l (acc * 10 + (c.toNat - 48))
    unfold Dig at h1
    rw [parseUintM, if_pos h1, if_neg (by omega), if_neg (by omega)]
    exact ih _ (fun x hx => hd x (List.mem_cons_of_mem _ hx)) hv
theorem toNat_of {n : Nat} (h : n < 256) : (UInt8.ofNat n).toNat = n := by simp; omega
theorem of_toNat (c : UInt8) : UInt8.ofNat c.toNat = c := by simp
theorem dec_ok (u : Nat) : decDigits u ≠ [] ∧ (∀ c ∈ decDigits u, Dig c) ∧ val 0 (decDigits u) = u ∧ ((decDigits u).head? = some 48 → u = 0) := by
  induction u using Nat.strongRecOn with
  | ind u ih =>
    by_cases h : u < 10
    · rw [decDigits_one h]
      have e := toNat_of (n := 48 + u) (by omega)
      refine ⟨by simp, fun c hc => ?_, ?_, fun h0 => ?_⟩
      · simp only [List.mem_singleton] at hc
        subst hc
        unfold Dig
        omega
      · rw [val_cons, val_nil]
        omega
      · simp only [List.head?_cons, Option.some.injEq] at h0
        have := congrArg UInt8.toNat h0
        rw [e] at this
        have e48 : (48 : UInt8).toNat = 48 := rfl
        omega
    · obtain ⟨h1, h2, h3, h4⟩ := ih (u / 10) (by omega)
      have e := toNat_of (n := 48 + u % 10) (by omega)
      rw [decDigits, dif_neg h]
      refine ⟨by simp, fun c hc => ?_, ?_, fun h0 => ?_⟩
      · rcases List.mem_append.1 hc with hc | hc
        · exact h2 c hc
        · simp only [List.mem_singleton] at hc
          subst hc
          unfold Dig
          omega
      · rw [val_append, h3, val_cons, val_nil]
        omega
      · rw [List.head?_append] at h0
        cases hh : (decDigits (u / 10)).head? with
        | none => exact absurd (List.head?_eq_none_iff.1 hh) h1
        | some x =>
          rw [hh] at h0
          simp only [Option.some_or, Option.some.injEq] at h0
          subst h0
          have := h4 hh
          omega
theorem dec_canon (n : Nat) : ∀ l : List UInt8, l.length = n + 1 → (∀ c ∈ l, Dig c) → (l.head? = some 48 → l.length = 1) → decDigits (val 0 l) = l := by
  induction n with
  | zero =>
    intro l hl hd _
    obtain ⟨c, rfl⟩ : ∃ c, l = [c] := by
      match l, hl with
      | [c], _ => exact ⟨c, rfl⟩
    have h1 := hd c (List.mem_singleton_self c)
    unfold Dig at h1
    rw [val_cons, val_nil, decDigits_one (by omega)]
    rw [show 48 + (0 * 10 + (c.toNat - 48)) = c.toNat by omega, of_toNat]
  | succ n ih =>
    intro l hl hd hh
    have hne : l ≠ [] := by intro e; subst e; simp at hl
    obtain ⟨xs, c, rfl⟩ : ∃ xs c, l = xs ++ [c] := ⟨l.dropLast, l.getLast hne, (List.dropLast_concat_getLast hne).symm⟩
    have hxl : xs.length = n + 1 := by simp at hl; omega
    have hx0 : xs ≠ [] := by intro e; subst e; simp at hxl
    have hhead : (xs ++ [c]).head? = xs.head? := by
      cases xs with
      | nil => exact absurd rfl hx0
      | cons a b => rfl
    have h48 : xs.head? ≠ some 48 := by
      intro e
      have := hh (hhead.trans e)
      omega
    have hx := ih xs hxl (fun x hx => hd x (List.mem_append_left _ hx)) (fun e => absurd e h48)
    have h1 := hd c (by simp)
    unfold Dig at h1
    have hpos : val 0 xs ≠ 0 := by
      intro e
      rw [e, decDigits_one (by omega)] at hx
      rw [← hx] at h48
      exact h48 rfl
    rw [val_append, val_cons, val_nil, decDigits, dif_neg (by omega), show (val 0 xs * 10 + (c.toNat - 48)) / 10 = val 0 xs by omega, hx, show 48 + (val 0 xs * 10 + (c.toNat - 48)) % 10 = c.toNat by omega, of_toNat]
theorem dec_len (d : Nat) : ∀ u, u < 10 ^ (d + 1) → (decDigits u).length ≤ d + 1 := by
  induction d with
  | zero => intro u h; rw [decDigits_one (by simpa using h)]; simp
  | succ d ih =>
    intro u h
    by_cases hu : u < 10
    · rw [decDigits_one hu]; simp
    · rw [decDigits, dif_neg hu]
      have := ih (u / 10) (by rw [Nat.pow_succ] at h; omega)
      simp
      omega
/-- What is written is read. -/
theorem parse_itoa (v : Int) (h0 : -9223372036854775808 ≤ v) (h1 : v ≤ 9223372036854775807) : parseIntB 64 (itoa v) = .ok v := by
  have hp (u : Nat) (hu : u ≤ 9223372036854775808) : parseUintB 64 (decDigits u) = .ok u := by
    obtain ⟨a, b, c, _⟩ := dec_ok u
    unfold parseUintB
    rw [if_neg a]
    have := parse_digits (decDigits u) 0 b (by omega)
    rw [c] at this
    exact this
  unfold itoa
  by_cases hn : v < 0
  · rw [if_pos hn, parseIntB_minus, hp _ (by omega)]
    simp only [signedC]
    rw [if_neg (by simp; omega)]
    congr 1
    omega
  · rw [if_neg hn]
    obtain ⟨a, b, c, _⟩ := dec_ok v.toNat
    cases hd : decDigits v.toNat with
    | nil => exact absurd hd a
    | cons x r =>
      have hx := b x (by rw [hd]; exact List.mem_cons_self ..)
      unfold Dig at hx
      rw [parseIntB_plain 64 x r (by omega) (by omega), ← hd, hp _ (by omega)]
      simp only [signlessC]
      rw [if_neg (by simp; omega)]
      congr 1
      omega
/-- What is read lies in range. -/
theorem parse_range (l : List UInt8) (v : Int) (h : parseIntB 64 l = .ok v) : -9223372036854775808 ≤ v ∧ v ≤ 9223372036854775807 := by
  unfold parseIntB at h
  split at h
  · cases h
  · simp only at h
    split at h
    · cases h
    · cases h
    · split at h
      · cases h
      · split at h
        · cases h
        · rename_i u _ h1 h2
          injection h with h
          simp at h1 h2
          split at h <;> omega
end Go.Proofs.YtccicjiadahmnaaDoor.Dec
