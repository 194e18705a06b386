/- The law on texts: the plain facts. -/
import Derived.Test.YtdkdmclbhcbfeaaDoorPs
import Derived.Test.YtdkdmclbhcbfeaaDoorP1
namespace Go.Proofs.YtdkdmclbhcbfeaaDoor.Nu
open Go.RowKit Go.Proofs.YtdkdmclbhcbfeaaDoor.Fl Go.Proofs.YtdkdmclbhcbfeaaDoorW.PrintWords Go.Proofs.YtdkdmclbhcbfeaaDoorW.PrintLast Go.Proofs.YtdkdmclbhcbfeaaDoorW.PrintMore
set_option linter.unusedVariables false
set_option linter.unusedSimpArgs false
theorem hv_hexD : ∀ x : Fin 16, hv (hexD x.val).toNat = some x.val := by decide +kernel
theorem p16_hexL (u : Nat) : ∀ (d acc : Nat), d ≤ 16 → acc < 16 ^ (16 - d) → p16 acc (hexL d u) = .num (acc * 16 ^ d + u % 16 ^ d)
  | 0, acc, _, _ => by simp [hexL, p16, Nat.mod_one]
  | d + 1, acc, hd, ha => by
    have h1 := hv_hexD ⟨u / 16 ^ d % 16, Nat.mod_lt _ (by decide)⟩
    simp only at h1
    have h15 : (16 : Nat) ^ (16 - (d + 1)) ≤ 16 ^ 15 := Nat.pow_le_pow_right (by decide) (by omega)
    have h16 : (16 : Nat) ^ 15 = 1152921504606846976 := by decide
    have hs : (16 : Nat) ^ (16 - d) = 16 ^ (16 - (d + 1)) * 16 := by rw [← Nat.pow_succ]; congr 1; omega
    rw [hexL, p16, h1]
    simp only
    rw [if_neg (by omega), p16_hexL u d _ (by omega) (by rw [hs]; omega)]
    congr 1
    have e1 : u % 16 ^ (d + 1) = u % 16 ^ d + 16 ^ d * (u / 16 ^ d % 16) := by rw [Nat.pow_succ, Nat.mod_mul]
    rw [e1, Nat.pow_succ, Nat.add_mul, Nat.mul_comm (u / 16 ^ d % 16) (16 ^ d), Nat.mul_comm (16 ^ d) 16, Nat.mul_assoc]
    omega
theorem pU_hexS {n : Nat} (hn : n < 18446744073709551616) : pU (hexS 16 n) = .num n := by
  unfold pU
  rw [hexS_size, if_neg (by decide)]
  show p16 0 (hexL 16 n).toArray.toList = _
  rw [List.toList_toArray, p16_hexL n 16 0 (by decide) (by decide), Nat.zero_mul, Nat.zero_add, Nat.mod_eq_of_lt (by have : (16 : Nat) ^ 16 = 18446744073709551616 := (by decide); omega)]
theorem parseV_hexS {n : Nat} (hn : n < 18446744073709551616) (h1 : oneN n = n) : parseV (hexS 16 n) = (n, 0) := by
  unfold parseV
  rw [pU_hexS hn]
  simp only
  rw [h1, if_pos rfl]
theorem parseV_back {s : ByteArray} (h : (parseV s).2 = 0) : hexS 16 (oneN (parseV s).1) = s := by
  unfold parseV at h ⊢
  split at h
  · split at h
    · rename_i h2; simp only [if_pos h2]; exact h2
    · cases h
  · cases h
def isH (c : Nat) : Bool := (decide (48 ≤ c) && decide (c ≤ 57)) || (decide (97 ≤ c) && decide (c ≤ 102))
def dig (c : Nat) : Nat := if c ≤ 57 then c - 48 else c - 87
theorem byteAll : ∀ c : Fin 256, isH c.val = true → (hexD (dig c.val)).toNat = c.val ∧ dig c.val < 16 := by decide +kernel
theorem hexD_isH : ∀ x : Fin 16, isH (hexD x.val).toNat = true := by decide +kernel
def NaN9 : Nat := 9221120237041090561
/-- what the document reads -/
def R : Nat → List UInt8 → Nat × Int
  | acc, [] => if nan acc = true ∧ acc ≠ 9221120237041090561 then (0, 2) else (acc, 0)
  | acc, c :: r => if isH c.toNat = true then R (acc * 16 + dig c.toNat) r else (0, 2)
def vl : Nat → List UInt8 → Nat
  | acc, [] => acc
  | acc, c :: r => vl (acc * 16 + dig c.toNat) r
theorem R_all : ∀ (bs : List UInt8) (acc : Nat), (∀ c ∈ bs, isH c.toNat = true) → R acc bs = R (vl acc bs) []
  | [], acc, _ => rfl
  | c :: r, acc, h => by
    have e : R acc (c :: r) = R (acc * 16 + dig c.toNat) r := by rw [R, if_pos (h c List.mem_cons_self)]
    rw [e, vl]
    exact R_all r _ (fun x hx => h x (List.mem_cons_of_mem _ hx))
theorem R_bad : ∀ (bs : List UInt8) (acc : Nat), (¬ ∀ c ∈ bs, isH c.toNat = true) → R acc bs = (0, 2)
  | [], acc, h => absurd (fun c hc => by cases hc) h
  | c :: r, acc, h => by
    rw [R]
    by_cases hc : isH c.toNat = true
    · rw [if_pos hc]
      refine R_bad r _ (fun hr => h ?_)
      intro x hx
      rcases List.mem_cons.1 hx with rfl | hx
      · exact hc
      · exact hr x hx
    · rw [if_neg hc]
theorem vl_eq : ∀ (bs : List UInt8) (acc : Nat), (∀ c ∈ bs, isH c.toNat = true) → ∃ v, v < 16 ^ bs.length ∧ vl acc bs = acc * 16 ^ bs.length + v ∧ hexL bs.length (vl acc bs) = bs
  | [], acc, _ => ⟨0, by decide, by simp [vl], rfl⟩
  | c :: r, acc, h => by
    obtain ⟨v, h1, h2, h3⟩ := vl_eq r (acc * 16 + dig c.toNat) (fun x hx => h x (List.mem_cons_of_mem _ hx))
    obtain ⟨b1, b2⟩ := byteAll ⟨c.toNat, c.toNat_lt⟩ (h c List.mem_cons_self)
    simp only at b1 b2
    refine ⟨dig c.toNat * 16 ^ r.length + v, ?_, ?_, ?_⟩
    · rw [List.length_cons, Nat.pow_succ]
      have : dig c.toNat * 16 ^ r.length ≤ 15 * 16 ^ r.length := Nat.mul_le_mul_right _ (by omega)
      omega
    · rw [vl, h2, List.length_cons, Nat.pow_succ, Nat.add_mul, Nat.mul_assoc, Nat.mul_comm 16 (16 ^ r.length)]
      omega
    · rw [List.length_cons, hexL, vl, h3]
      have hp : 0 < 16 ^ r.length := Nat.pow_pos (by decide)
      have e : vl (acc * 16 + dig c.toNat) r / 16 ^ r.length = acc * 16 + dig c.toNat := by
        rw [h2, Nat.mul_comm, Nat.mul_add_div hp, Nat.div_eq_of_lt h1, Nat.add_zero]
      rw [e, show (acc * 16 + dig c.toNat) % 16 = dig c.toNat by omega]
      congr 1
      exact UInt8.toNat_inj.1 b1
theorem hexL_isH (u : Nat) : ∀ d, ∀ c ∈ hexL d u, isH c.toNat = true
  | 0, c, h => by cases h
  | d + 1, c, h => by
    rcases List.mem_cons.1 h with rfl | h
    · exact hexD_isH ⟨u / 16 ^ d % 16, Nat.mod_lt _ (by decide)⟩
    · exact hexL_isH u d c h
theorem hexS_bytes {s : ByteArray} {n : Nat} (h : hexS 16 n = s) : s.data.toList = hexL 16 n := by
  subst h
  exact List.toList_toArray ..
theorem hexS_inj {a b : Nat} (ha : a < 18446744073709551616) (hb : b < 18446744073709551616) (h : hexS 16 a = hexS 16 b) : a = b := by
  have h1 := pU_hexS ha
  rw [h, pU_hexS hb] at h1
  cases h1
  rfl
theorem parseV_R (s : ByteArray) : parseV s = if s.size = 16 then R 0 s.data.toList else (0, 2) := by
  have hl : s.data.toList.length = s.size := by rw [Lib.size_eq]
  by_cases h16 : s.size = 16
  · rw [if_pos h16]
    by_cases hall : ∀ c ∈ s.data.toList, isH c.toNat = true
    · rw [R_all _ _ hall]
      obtain ⟨v, h1, h2, h3⟩ := vl_eq s.data.toList 0 hall
      rw [hl, h16] at h1 h2 h3
      generalize vl 0 s.data.toList = n at h2 h3
      have hn : n < 18446744073709551616 := by have : (16 : Nat) ^ 16 = 18446744073709551616 := (by decide); omega
      have hs : hexS 16 n = s := by
        apply ByteArray.ext
        show (hexL 16 n).toArray = s.data
        rw [h3, Array.toArray_toList]
      unfold parseV
      rw [← hs, pU_hexS hn]
      simp only [R]
      by_cases ho : oneN n = n
      · rw [ho, if_pos rfl, if_neg]
        rintro ⟨a1, a2⟩
        unfold oneN at ho
        rw [if_pos a1] at ho
        exact a2 ho.symm
      · rw [if_neg (fun e => ho (hexS_inj (one_lt hn) hn e)), if_pos]
        unfold oneN at ho
        by_cases hq : nan n = true
        · rw [if_pos hq] at ho
          exact ⟨hq, fun e => ho e.symm⟩
        · rw [if_neg hq] at ho
          exact absurd rfl ho
    · rw [R_bad _ _ hall]
      unfold parseV
      split
      · split
        · rename_i n _ h2
          exact absurd (by rw [hexS_bytes h2]; exact hexL_isH _ _) hall
        · rfl
      · rfl
  · rw [if_neg h16]
    unfold parseV
    split
    · split
      · rename_i n _ h2
        exact absurd (by rw [← h2, hexS_size]) h16
      · rfl
    · rfl
end Go.Proofs.YtdkdmclbhcbfeaaDoor.Nu
