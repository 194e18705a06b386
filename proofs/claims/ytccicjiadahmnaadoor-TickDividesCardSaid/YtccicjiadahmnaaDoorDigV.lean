/- Digits of 16 bits, for the law of quotients (print V). -/
import Derived.Test.YtccicjiadahmnaaDoorV9
import Derived.Laws.BitsLemmas
namespace Go.Proofs.YtccicjiadahmnaaDoor.Law1
open Go.RowKit Go.Proofs.YtccicjiadahmnaaDoor Go.Proofs.YtccicjiadahmnaaDoor.V Go.Proofs.YtccicjiadahmnaaDoorW.PrintWords Go.Proofs.YtccicjiadahmnaaDoorW.PrintLast Go.Proofs.YtccicjiadahmnaaDoorW.PrintMore
set_option linter.unusedVariables false
theorem wf64 {a : Int} (h : (Lit.int .i64 a).wf = true) : Hd.inR a := by
 simp [Lit.wf, IntKind.min, IntKind.max, IntKind.signed, IntKind.bits] at h
 unfold Hd.inR
 omega
theorem fixed_true : Hd.tocsinlaw02_fixed.f = some true := rfl
theorem wrap_in {x : Int} (h : Hd.inR x) : wrap64 x = x := by unfold Hd.inR at h; simp [wrap64]; omega
theorem val_in {x : Int} (h : Hd.inR x) : Hd.val x = x := by unfold Hd.val; rw [if_pos h]
theorem err_in {x : Int} (h : Hd.inR x) : Hd.err x = 0 := by unfold Hd.err; rw [if_pos h]
theorem muldiv_in {a b c : Int} (ha : Hd.inR a) (hb : Hd.inR b) (hc : Hd.inR c) (h0 : 0 < c) : Hd.tick_MulDiv.f a b c = some (Hd.val (a * b / c), Hd.err (a * b / c)) := by
 unfold Hd.tick_MulDiv.f Hd.mdv
 rw [if_pos ⟨ha, hb, hc⟩, if_neg (by omega)]
theorem nat_halves : ∀ (n x y : Nat), x < 2 ^ n → y < 2 ^ n → 2 * (x &&& y) + (x ^^^ y) = x + y
 | 0, x, y, hx, hy => by
  obtain rfl : x = 0 := by simpa using hx
  obtain rfl : y = 0 := by simpa using hy
  rfl
 | n + 1, x, y, hx, hy => by
  have ih := nat_halves n (x / 2) (y / 2) (by rw [Nat.pow_succ] at hx; omega) (by rw [Nat.pow_succ] at hy; omega)
  have a1 : (x &&& y) / 2 = x / 2 &&& y / 2 := Nat.and_div_two
  have a2 : (x ^^^ y) / 2 = x / 2 ^^^ y / 2 := Nat.xor_div_two
  have b1 : (x &&& y) % 2 = (x % 2) * (y % 2) := by
   rw [show (2 : Nat) = 2 ^ 1 from rfl, Nat.and_mod_two_pow]
   rcases Nat.mod_two_eq_zero_or_one x with h | h <;> rcases Nat.mod_two_eq_zero_or_one y with k | k <;> simp [h, k]
  have b2 : (x ^^^ y) % 2 = (x + y) % 2 := by
   rw [show (2 : Nat) = 2 ^ 1 from rfl, Nat.xor_mod_two_pow]
   rcases Nat.mod_two_eq_zero_or_one x with h | h <;> rcases Nat.mod_two_eq_zero_or_one y with k | k <;> simp [h, k] <;> omega
  rw [← a1, ← a2] at ih
  rcases Nat.mod_two_eq_zero_or_one x with h | h <;> rcases Nat.mod_two_eq_zero_or_one y with k | k <;> simp only [h, k] at b1 <;> omega
theorem top_bit (x : Nat) (h : x < 2 ^ 64) : x / 2 ^ 63 = 0 ∨ x / 2 ^ 63 = 1 := by
 have : x / 2 ^ 63 < 2 := (Nat.div_lt_iff_lt_mul (by decide)).2 (by omega)
 omega
theorem half_eq (a b : Int) (ha : Hd.inR a) (hb : Hd.inR b) : tick_Half.f a b = some ((a + b) / 2) := by
 unfold tick_Half.f
 have wr : ∀ z : Nat, z < 2 ^ 64 → IntKind.i64.wrap (z : Int) = (z : Int) - 18446744073709551616 * ((z / 2 ^ 63 : Nat) : Int) := by
  intro z hz
  rw [IntKind.wrap_i64]
  rcases top_bit z hz with h | h <;> omega
 have tn : ∀ z : Int, (BitVec.ofInt 64 z).toNat = (z % 18446744073709551616).toNat := by
  intro z
  rw [BitVec.toNat_ofInt]
  rfl
 have e1 : Go.bits .and .i64 a b = IntKind.i64.wrap (((a % 18446744073709551616).toNat &&& (b % 18446744073709551616).toNat : Nat) : Int) := by
  show IntKind.i64.wrap ((BitVec.ofInt 64 a &&& BitVec.ofInt 64 b).toNat : Nat) = _
  rw [BitVec.toNat_and, tn, tn]
 have e2 : Go.bits .xor .i64 a b = IntKind.i64.wrap (((a % 18446744073709551616).toNat ^^^ (b % 18446744073709551616).toNat : Nat) : Int) := by
  show IntKind.i64.wrap ((BitVec.ofInt 64 a ^^^ BitVec.ofInt 64 b).toNat : Nat) = _
  rw [BitVec.toNat_xor, tn, tn]
 rw [e1, e2]
 unfold Hd.inR at ha hb
 have hA : (a % 18446744073709551616).toNat < 2 ^ 64 := by omega
 have hB : (b % 18446744073709551616).toNat < 2 ^ 64 := by omega
 have hsum := nat_halves 64 _ _ hA hB
 have hda : ((a % 18446744073709551616).toNat &&& (b % 18446744073709551616).toNat) / 2 ^ 63 = (a % 18446744073709551616).toNat / 2 ^ 63 &&& (b % 18446744073709551616).toNat / 2 ^ 63 := Nat.and_div_two_pow
 have hdx : ((a % 18446744073709551616).toNat ^^^ (b % 18446744073709551616).toNat) / 2 ^ 63 = (a % 18446744073709551616).toNat / 2 ^ 63 ^^^ (b % 18446744073709551616).toNat / 2 ^ 63 := Nat.xor_div_two_pow
 have ra : a = (a % 18446744073709551616).toNat - 18446744073709551616 * (((a % 18446744073709551616).toNat / 2 ^ 63 : Nat) : Int) := by omega
 have rb : b = (b % 18446744073709551616).toNat - 18446744073709551616 * (((b % 18446744073709551616).toNat / 2 ^ 63 : Nat) : Int) := by omega
 have hand : (a % 18446744073709551616).toNat &&& (b % 18446744073709551616).toNat < 2 ^ 64 := Nat.and_lt_two_pow _ hB
 have hxor := Nat.xor_lt_two_pow hA hB
 rw [wr _ hand, wr _ hxor]
 generalize (a % 18446744073709551616).toNat = A at *
 generalize (b % 18446744073709551616).toNat = B at *
 generalize A &&& B = X at *
 generalize A ^^^ B = Y at *
 have key : 2 * ((X : Int) - 18446744073709551616 * ((X / 2 ^ 63 : Nat) : Int)) + ((Y : Int) - 18446744073709551616 * ((Y / 2 ^ 63 : Nat) : Int)) = a + b := by
  rw [hda, hdx]
  rcases top_bit A hA with h | h <;> rcases top_bit B hB with k | k <;> simp only [h, k] at ra rb ⊢ <;> simp <;> omega
 generalize (X : Int) - 18446744073709551616 * ((X / 2 ^ 63 : Nat) : Int) = P at *
 generalize (Y : Int) - 18446744073709551616 * ((Y / 2 ^ 63 : Nat) : Int) = Q at *
 rw [wrap_in (by unfold Hd.inR; omega)]
 congr 1
 omega
end Go.Proofs.YtccicjiadahmnaaDoor.Law1
namespace Go.Proofs.YtccicjiadahmnaaDoor.Dig
open Go.RowKit Go.Proofs.YtccicjiadahmnaaDoor Go.Proofs.YtccicjiadahmnaaDoor.V Go.Proofs.YtccicjiadahmnaaDoorW.PrintWords Go.Proofs.YtccicjiadahmnaaDoorW.PrintLast Go.Proofs.YtccicjiadahmnaaDoorW.PrintMore
set_option linter.unusedVariables false

def V : List Int → Int
 | [] => 0
 | d :: l => d + 65536 * V l
def Dg (l : List Int) : Prop := ∀ d ∈ l, 0 ≤ d ∧ d < 65536
def Nz (l : List Int) : Prop := l = [] ∨ l.getD (l.length - 1) 0 ≠ 0
def B (n : Nat) : Int := 65536 ^ n
theorem B0 : B 0 = 1 := by decide
theorem Bs (n : Nat) : B (n + 1) = 65536 * B n := by unfold B; rw [Int.pow_succ, Int.mul_comm]
theorem Bpos (n : Nat) : 0 < B n := Int.pow_pos (by decide)
theorem Badd (m n : Nat) : B (m + n) = B m * B n := by unfold B; rw [Int.pow_add]
theorem Bmono {m n : Nat} (h : m ≤ n) : B m ≤ B n := by
 induction h with
 | refl => exact Int.le_refl _
 | step _ ih => rw [Bs]; have := Bpos m; omega
theorem B4 : B 4 = 18446744073709551616 := by decide
theorem Dg.nil : Dg [] := fun d h => by cases h
theorem Dg.cons {d : Int} {l : List Int} (h0 : 0 ≤ d ∧ d < 65536) (h : Dg l) : Dg (d :: l) := fun x hx => by
 rcases List.mem_cons.1 hx with rfl | hx
 ·exact h0
 ·exact h x hx
theorem Dg.append {a b : List Int} (ha : Dg a) (hb : Dg b) : Dg (a ++ b) := fun x hx => by
 rcases List.mem_append.1 hx with hx | hx
 ·exact ha x hx
 ·exact hb x hx
theorem Dg.snoc {a : List Int} {d : Int} (ha : Dg a) (h0 : 0 ≤ d ∧ d < 65536) : Dg (a ++ [d]) := ha.append (Dg.cons h0 Dg.nil)
theorem Dg.getD {a : List Int} (ha : Dg a) (i : Nat) : 0 ≤ a.getD i 0 ∧ a.getD i 0 < 65536 := by
 rw [List.getD_eq_getElem?_getD]
 by_cases h : i < a.length
 ·rw [List.getElem?_eq_getElem h]
  exact ha _ (List.getElem_mem _)
 ·rw [List.getElem?_eq_none (by omega)]
  decide
theorem Dg.take {a : List Int} (ha : Dg a) (i : Nat) : Dg (a.take i) := fun x hx => ha x (List.mem_of_mem_take hx)
theorem Dg.drop {a : List Int} (ha : Dg a) (i : Nat) : Dg (a.drop i) := fun x hx => ha x (List.mem_of_mem_drop hx)
theorem Dg.set {a : List Int} (ha : Dg a) (i : Nat) {d : Int} (h0 : 0 ≤ d ∧ d < 65536) : Dg (a.set i d) := fun x hx => by
 rcases List.mem_or_eq_of_mem_set hx with hx | rfl
 ·exact ha x hx
 ·exact h0
theorem V_nil : V [] = 0 := rfl
theorem V_cons (d : Int) (l : List Int) : V (d :: l) = d + 65536 * V l := rfl
theorem V_append (a b : List Int) : V (a ++ b) = V a + B a.length * V b := by
 induction a with
 | nil => simp [V, B0]
 | cons d l ih =>
  simp only [List.cons_append, V, List.length_cons]
  rw [ih, Bs, Int.mul_add, Int.mul_assoc]
  omega
theorem V_snoc (a : List Int) (d : Int) : V (a ++ [d]) = V a + B a.length * d := by rw [V_append]; simp [V]
theorem V_range {l : List Int} (h : Dg l) : 0 ≤ V l ∧ V l < B l.length := by
 induction l with
 | nil => simp [V, B0]
 | cons d l ih =>
  have h1 := h d (List.mem_cons_self ..)
  have h2 := ih fun x hx => h x (List.mem_cons_of_mem _ hx)
  simp only [V, List.length_cons]
  rw [Bs]
  omega
theorem V_drop (l : List Int) (i : Nat) : V (l.drop i) = l.getD i 0 + 65536 * V (l.drop (i + 1)) := by
 by_cases h : i < l.length
 ·rw [List.drop_eq_getElem_cons h, List.getD_eq_getElem?_getD, List.getElem?_eq_getElem h]
  rfl
 ·rw [List.drop_of_length_le (by omega), List.drop_of_length_le (by omega), List.getD_eq_getElem?_getD, List.getElem?_eq_none (by omega)]
  rfl
theorem V_take (l : List Int) (i : Nat) (h : i < l.length) : V (l.take (i + 1)) = V (l.take i) + B i * l.getD i 0 := by
 rw [List.take_succ_eq_append_getElem h, V_snoc, List.length_take, Nat.min_eq_left (by omega), List.getD_eq_getElem?_getD, List.getElem?_eq_getElem h]
 rfl
theorem V_parts (l : List Int) (i : Nat) (h : i ≤ l.length) : V l = V (l.take i) + B i * V (l.drop i) := by
 conv => lhs; rw [← List.take_append_drop i l]
 rw [V_append, List.length_take, Nat.min_eq_left h]
theorem V_set (l : List Int) : ∀ (i : Nat) (d : Int), i < l.length → V (l.set i d) = V l + B i * (d - l.getD i 0) := by
 induction l with
 | nil => intro i d h; simp at h
 | cons c l ih =>
  intro i d h
  cases i with
  | zero => simp [V, B0]; omega
  | succ i =>
   simp only [List.set_cons_succ, V, List.getD_cons_succ]
   rw [ih i d (by simpa using h), Bs, Int.mul_add, Int.mul_assoc]
   omega
theorem V_zeros (n : Nat) : V (List.replicate n 0) = 0 := by
 induction n with
 | zero => rfl
 | succ n ih => rw [List.replicate_succ]; simp [V, ih]
theorem Nz_low {l : List Int} (h : Dg l) (hz : Nz l) (hl : l ≠ []) : B (l.length - 1) ≤ V l := by
 have hlen : 0 < l.length := List.length_pos_iff.2 hl
 have e := V_take l (l.length - 1) (by omega)
 rw [show l.length - 1 + 1 = l.length by omega, List.take_length] at e
 have h1 := V_range (h.take (l.length - 1))
 have h2 := h.getD (l.length - 1)
 have h3 : l.getD (l.length - 1) 0 ≠ 0 := hz.resolve_left hl
 have h4 := Bpos (l.length - 1)
 have h5 : B (l.length - 1) * 1 ≤ B (l.length - 1) * l.getD (l.length - 1) 0 := Int.mul_le_mul_of_nonneg_left (by omega) (by omega)
 omega
theorem Nz_len {l : List Int} (h : Dg l) (hz : Nz l) (n : Nat) (hv : V l < B n) : l.length ≤ n := by
 rcases Nat.lt_or_ge n l.length with hn | hn
 ·have hl : l ≠ [] := by rintro rfl; simp at hn
  have h1 := Nz_low h hz hl
  have h2 := Bmono (show n ≤ l.length - 1 by omega)
  omega
 ·exact hn
theorem Nz_zero {l : List Int} (h : Dg l) (hz : Nz l) : l = [] ↔ V l = 0 := by
 constructor
 ·rintro rfl; rfl
 ·intro hv
  have := Nz_len h hz 0 (by rw [hv, B0]; decide)
  exact List.length_eq_zero_iff.1 (by omega)
structure W (l : List Int) (neg : Bool) (n : Int) : Prop where
 dg : Dg l
 nz : Nz l
 val : V l = n.natAbs
 sgn : neg = decide (n < 0)
theorem rd_at (l : List Int) (i : Nat) : rd l (i : Int) = l.getD i 0 := by simp [rd]
theorem digit_at (l : List Int) (i : Nat) : tocsinref02_digit.f l (i : Int) = some (l.getD i 0) := by
 unfold tocsinref02_digit.f
 by_cases h : i < l.length
 ·rw [if_pos (by omega), if_pos (by omega), rd_at]
 ·rw [if_neg (by omega), List.getD_eq_getElem?_getD, List.getElem?_eq_none (by omega)]
  rfl
theorem u64_in {x : Int} (h : 0 ≤ x ∧ x < 18446744073709551616) : IntKind.u64.wrap x = x := by
 simp [IntKind.wrap, IntKind.signed, IntKind.bits]
 omega
theorem wrapN {x : Int} (h : -9223372036854775808 ≤ x ∧ x ≤ 9223372036854775807) : wrap64 x = x := Law1.wrap_in h
theorem of_loop (neg : Bool) (d : Nat) : ∀ (m : Int) (acc : List Int), 0 ≤ m → m < B d → m < 18446744073709551616 → acc.length + d ≤ 100 → Dg acc → (m = 0 → Nz acc) →
  ∃ l, Ev (fun k => tocsinref02_Of.l0 k m acc neg) (l, neg) ∧ Dg l ∧ Nz l ∧ V l = V acc + B acc.length * m := by
 induction d with
 | zero =>
  intro m acc m0 m1 _ _ hd hz
  rw [B0] at m1
  obtain rfl : m = 0 := by omega
  refine ⟨acc, Ev.step (f := fun _ => some (acc, neg)) (fun k => ?_) (Ev.now _), hd, hz rfl, by omega⟩
  rw [tocsinref02_Of.l0, if_neg (by omega)]
 | succ d ih =>
  intro m acc m0 m1 m2 hl hd hz
  rw [Bs] at m1
  by_cases hp : m > 0
  ·have e1 : IntKind.u64.wrap (Int.tdiv m 65536) = m / 65536 := by rw [Int.tdiv_eq_ediv_of_nonneg m0, u64_in (by omega)]
   have e2 : (Int.tmod m 65536) % 4294967296 = m % 65536 := by rw [Int.tmod_eq_emod_of_nonneg m0]; omega
   obtain ⟨l, h1, h2, h3, h4⟩ := ih (m / 65536) (acc ++ [m % 65536]) (by omega) (by omega) (by omega) (by simp; omega) (hd.snoc (by omega)) (fun h0 => .inr (by simp; omega))
   refine ⟨l, Ev.step (f := fun k => tocsinref02_Of.l0 k (m / 65536) (acc ++ [m % 65536]) neg) (fun k => ?_) h1, h2, h3, ?_⟩
   ·rw [tocsinref02_Of.l0, if_pos hp, if_pos (by omega), e1, e2]
   ·rw [h4, V_snoc, List.length_append, List.length_singleton, Bs]
    have e3 : B acc.length * m = B acc.length * (m % 65536 + 65536 * (m / 65536)) := by congr 1; omega
    rw [e3, Int.mul_add]
    have e4 : B acc.length * (65536 * (m / 65536)) = 65536 * B acc.length * (m / 65536) := by rw [← Int.mul_assoc, Int.mul_comm (B acc.length) 65536]
    omega
  ·obtain rfl : m = 0 := by omega
   refine ⟨acc, Ev.step (f := fun _ => some (acc, neg)) (fun k => ?_) (Ev.now _), hd, hz rfl, by omega⟩
   rw [tocsinref02_Of.l0, if_neg (by omega)]
theorem of_ev (n : Int) (hn : Hd.inR n) : ∃ l, Ev (fun k => tocsinref02_Of.f k n) (l, decide (n < 0)) ∧ W l (decide (n < 0)) n := by
 obtain ⟨n0, n1⟩ := hn
 obtain ⟨l, h1, h2, h3, h4⟩ := of_loop (decide (n < 0)) 4 (n.natAbs : Int) [] (by omega) (by rw [B4]; omega) (by omega) (by simp) Dg.nil (fun _ => .inl rfl)
 have hj : Ev (fun k => tocsinref02_Of.j0 k (n.natAbs : Int) (decide (n < 0))) (l, decide (n < 0)) := Ev.step (fun k => by rw [tocsinref02_Of.j0]) h1
 refine ⟨l, Ev.congr (fun k => ?_) hj, h2, h3, ?_, rfl⟩
 ·unfold tocsinref02_Of.f
  by_cases hneg : n < 0
  ·rw [if_pos hneg]
   congr 1
   simp [IntKind.wrap, IntKind.signed, IntKind.bits]
   omega
  ·rw [if_neg hneg]
   congr 1
   simp [IntKind.wrap, IntKind.signed, IntKind.bits]
   omega
 ·rw [h4]
  simp [V, B0]
theorem trim_loop (n : Nat) : ∀ (l : List Int) (neg : Bool), l.length = n → l.length ≤ 1000000 → Dg l →
  ∃ l', Ev (fun k => tocsinref02_trim.l0 k l neg) (l', if V l = 0 then false else neg) ∧ Dg l' ∧ Nz l' ∧ V l' = V l := by
 induction n with
 | zero =>
  intro l neg hn hl hd
  obtain rfl : l = [] := List.length_eq_zero_iff.1 hn
  refine ⟨[], Ev.step (f := fun _ => some (([] : List Int), false)) (fun k => ?_) ?_, hd, .inl rfl, rfl⟩
  ·rw [tocsinref02_trim.l0, if_neg (by simp), if_pos (by simp)]
  ·rw [if_pos (by rfl)]; exact Ev.now _
 | succ n ih =>
  intro l neg hn hl hd
  have e : wrap64 ((l.length : Int) - 1) = ((l.length - 1 : Nat) : Int) := by rw [wrapN (by omega)]; omega
  by_cases h0 : l.getD (l.length - 1) 0 = 0
  ·have hv : V (l.take (l.length - 1)) = V l := by
    have := V_take l (l.length - 1) (by omega)
    rw [show l.length - 1 + 1 = l.length by omega, List.take_length, h0] at this
    omega
   obtain ⟨l', h1, h2, h3, h4⟩ := ih (l.take (l.length - 1)) neg (by simp; omega) (by simp; omega) (hd.take _)
   rw [hv] at h1 h4
   refine ⟨l', Ev.step (f := fun k => tocsinref02_trim.l0 k (l.take (l.length - 1)) neg) (fun k => ?_) h1, h2, h3, h4⟩
   rw [tocsinref02_trim.l0, if_pos (by omega), e, if_pos (by omega), if_pos (by omega), rd_at, if_pos h0, if_pos (by omega), Int.toNat_natCast]
  ·have hz : Nz l := .inr h0
   have hv : V l ≠ 0 := fun hv => by
    have := (Nz_zero hd hz).2 hv
    rw [this] at hn
    simp at hn
   refine ⟨l, Ev.step (f := fun _ => some (l, neg)) (fun k => ?_) (by rw [if_neg hv]; exact Ev.now _), hd, hz, rfl⟩
   rw [tocsinref02_trim.l0, if_pos (by omega), e, if_pos (by omega), if_pos (by omega), rd_at, if_neg h0, if_neg (by omega)]
theorem trim_ev (l : List Int) (neg : Bool) (hl : l.length ≤ 1000000) (hd : Dg l) : ∃ l', Ev (fun k => tocsinref02_trim.f k l neg) (l', if V l = 0 then false else neg) ∧ Dg l' ∧ Nz l' ∧ V l' = V l :=
 trim_loop l.length l neg rfl hl hd
attribute [irreducible] B V

theorem dist2 (P a b : Int) : P * (a + 65536 * b) = P * a + 65536 * P * b := by
 rw [Int.mul_add, ← Int.mul_assoc, Int.mul_comm P 65536]
theorem plus_arith (P x y c p z m q A : Int) (es : x + y + c = m + 65536 * q) : A + P * m + 65536 * P * (p + z + q) = A + P * (x + 65536 * p + (y + 65536 * z) + c) := by
 have e3 : x + 65536 * p + (y + 65536 * z) + c = m + 65536 * (p + z + q) := by omega
 rw [e3, dist2, Int.add_assoc]
theorem minus_arith (P x y c p z m q A r u : Int) (es : 65536 + x - y - c = m + 65536 * q) (h : r + 65536 * P * (z + (1 - q)) = A + P * m + 65536 * P * p + u) : r + P * (y + 65536 * z + c) = A + P * (x + 65536 * p) + u := by
 have f1 : y + 65536 * z + c = (y + c) + 65536 * z := by omega
 have f3 : 65536 * (1 - q) = m + (y + c) + (-1) * x := by omega
 have f2 : 65536 * P * (z + (1 - q)) = 65536 * P * z + (P * m + P * (y + c) - P * x) := by
  rw [Int.mul_add]
  congr 1
  rw [Int.mul_comm 65536 P, Int.mul_assoc, f3, Int.mul_add, Int.mul_add, Int.neg_one_mul, Int.mul_neg]
  rfl
 rw [f1, dist2, dist2]
 rw [f2] at h
 generalize 65536 * P * z = t1 at *
 generalize 65536 * P * p = t2 at *
 generalize P * m = t3 at *
 generalize P * (y + c) = t4 at *
 generalize P * x = t5 at *
 clear f1 f2 f3 es
 omega
theorem wrap_succ (i : Nat) (h : i ≤ 2000) : wrap64 ((i : Int) + 1) = ((i + 1 : Nat) : Int) := by rw [wrapN (by omega)]; omega
structure Same (s m q : Int) : Prop where
 low : s % 65536 = m
 high : (s % 4294967296) / 65536 = q
 borrow : (1 - (s % 4294967296) / 65536) % 4294967296 = 1 - q
theorem parts (s : Int) (h0 : 0 ≤ s) (h1 : s ≤ 131071) : ∃ m q : Int, Same s m q ∧ 0 ≤ m ∧ m < 65536 ∧ 0 ≤ q ∧ q ≤ 1 ∧ s = m + 65536 * q := by
 have hs : s % 4294967296 = s := Int.emod_eq_of_lt h0 (by omega)
 refine ⟨s % 65536, s / 65536, ⟨rfl, by rw [hs], ?_⟩, ?_, ?_, ?_, ?_, ?_⟩
 ·rw [hs]; exact Int.emod_eq_of_lt (by omega) (by omega)
 all_goals omega
theorem none_at {l : List Int} {i : Nat} (h : l.length ≤ i) : l.getD i 0 = 0 := by rw [List.getD_eq_getElem?_getD, List.getElem?_eq_none h]; rfl
theorem plus_loop (a b : List Int) (ha : Dg a) (hb : Dg b) (M : Nat) (hM : M ≤ 1000) (hla : a.length ≤ M) (hlb : b.length ≤ M) (d : Nat) : ∀ (i : Nat) (acc : List Int) (c : Int), acc.length = i → M + 1 ≤ i + d → i ≤ M + 1 → (0 ≤ c ∧ c ≤ 1) → (M + 1 ≤ i → c = 0) → Dg acc →
  ∃ r, Ev (fun k => tocsinref02_plus.l0 k a b acc c (i : Int)) r ∧ Dg r ∧ r.length ≤ M + 1 ∧ V r = V acc + B i * (V (a.drop i) + V (b.drop i) + c) := by
 induction d with
 | zero =>
  intro i acc c hi hd hi2 hc hc0 hacc
  obtain rfl := hc0 (by omega)
  refine ⟨acc, Ev.step (f := fun k => tocsinref02_plus.j1 k a b acc 0 (i : Int) false) (fun k => ?_) (Ev.step (f := fun _ => some acc) (fun k => ?_) (Ev.now _)), hacc, by omega, ?_⟩
  ·rw [tocsinref02_plus.l0, if_neg (by omega), if_neg (by omega), show decide ((0 : Int) > 0) = false from rfl]
  ·rw [tocsinref02_plus.j1, if_neg (by decide)]
  ·rw [List.drop_of_length_le (by omega), List.drop_of_length_le (by omega)]; simp [V_nil]
 | succ d ih =>
  intro i acc c hi hd hi2 hc hc0 hacc
  by_cases hgo : i < a.length ∨ i < b.length ∨ c > 0
  ·have hx := ha.getD i
   have hy := hb.getD i
   have hin : i ≤ M := by
    rcases Nat.lt_or_ge (M) i with h | h
    ·have := hc0 (by omega); omega
    ·exact h
   have g1 : M + 1 ≤ i + 1 + d := by omega
   have g2 : i + 1 ≤ M + 1 := by omega
   have g3 : acc.length < 35184372088832 := by omega
   obtain ⟨m, q, he, m0, m1, q0, q1, es⟩ := parts (a.getD i 0 + b.getD i 0 + c) (by omega) (by omega)
   have gi : i ≤ 2000 := by omega
   have hq : M + 1 ≤ i + 1 → q = 0 := fun hge => by
    have h5 : a.getD i 0 = 0 := none_at (Nat.le_trans hla (Nat.le_of_succ_le_succ hge))
    have h6 : b.getD i 0 = 0 := none_at (Nat.le_trans hlb (Nat.le_of_succ_le_succ hge))
    rw [h5, h6] at es
    omega
   obtain ⟨r, h1, h2, h3, h4⟩ := ih (i + 1) (acc ++ [m]) q (by simp [hi]) g1 g2 ⟨q0, q1⟩ hq (hacc.snoc ⟨m0, m1⟩)
   refine ⟨r, Ev.step (f := fun k => tocsinref02_plus.j1 k a b acc c (i : Int) true) (fun k => ?_) (Ev.step (f := fun k => tocsinref02_plus.l0 k a b (acc ++ [m]) q ((i + 1 : Nat) : Int)) (fun k => ?_) h1), h2, h3, ?_⟩
   ·clear h1 h4 hq hc0 ih
    rw [tocsinref02_plus.l0]
    by_cases g1 : i < a.length
    ·rw [if_pos (by omega)]
    ·rw [if_neg (by omega)]
     by_cases g2 : i < b.length
     ·rw [if_pos (by omega)]
     ·rw [if_neg (by omega), decide_eq_true (by omega)]
   ·rw [tocsinref02_plus.j1, if_pos rfl, digit_at, digit_at]
    simp only [Option.bind_some]
    rw [if_pos g3, he.low, he.high, wrap_succ i gi]
   ·rw [h4, V_snoc, V_drop a i, V_drop b i, hi, Bs]
    exact plus_arith _ _ _ _ _ _ _ _ _ es
  ·have hcz : c = 0 := by omega
   subst hcz
   refine ⟨acc, Ev.step (f := fun k => tocsinref02_plus.j1 k a b acc 0 (i : Int) false) (fun k => ?_) (Ev.step (f := fun _ => some acc) (fun k => ?_) (Ev.now _)), hacc, by omega, ?_⟩
   ·rw [tocsinref02_plus.l0, if_neg (by omega), if_neg (by omega), show decide ((0 : Int) > 0) = false from rfl]
   ·rw [tocsinref02_plus.j1, if_neg (by decide)]
   ·rw [List.drop_of_length_le (by omega), List.drop_of_length_le (by omega)]; simp [V_nil]
theorem plus_ev (a b : List Int) (ha : Dg a) (hb : Dg b) (hla : a.length ≤ 1000) (hlb : b.length ≤ 1000) : ∃ r, Ev (fun k => tocsinref02_plus.f k a b) r ∧ Dg r ∧ r.length ≤ 1001 ∧ V r = V a + V b := by
 obtain ⟨r, h1, h2, h3, h4⟩ := plus_loop a b ha hb (max a.length b.length) (by omega) (by omega) (by omega) (max a.length b.length + 1) 0 [] 0 rfl (by omega) (by omega) (by omega) (by omega) Dg.nil
 refine ⟨r, h1, h2, by omega, ?_⟩
 rw [h4]
 simp [V_nil, B0]
theorem minus_loop (a b : List Int) (ha : Dg a) (hb : Dg b) (hla : a.length ≤ 1000) (d : Nat) : ∀ (i : Nat) (acc : List Int) (c : Int), acc.length = i → i + d = a.length → (0 ≤ c ∧ c ≤ 1) → Dg acc →
  ∃ r c', Ev (fun k => tocsinref02_minus.l0 k a b acc c (i : Int)) r ∧ Dg r ∧ r.length = a.length ∧ (0 ≤ c' ∧ c' ≤ 1) ∧ V r + B i * (V (b.drop i) + c) = V acc + B i * V (a.drop i) + B a.length * (c' + V (b.drop a.length)) := by
 induction d with
 | zero =>
  intro i acc c hi hd hc hacc
  obtain rfl : i = a.length := by omega
  refine ⟨acc, c, Ev.step (f := fun _ => some acc) (fun k => ?_) (Ev.now _), hacc, hi, hc, ?_⟩
  ·rw [tocsinref02_minus.l0, if_neg (by omega)]
  ·rw [List.drop_of_length_le (Nat.le_refl _)]
   simp only [V_nil, Int.mul_zero, Int.add_zero]
   rw [Int.add_comm c]
 | succ d ih =>
  intro i acc c hi hd hc hacc
  have hx := ha.getD i
  have hy := hb.getD i
  obtain ⟨m, q, he, m0, m1, q0, q1, es⟩ := parts (65536 + a.getD i 0 - b.getD i 0 - c) (by omega) (by omega)
  have gi : i ≤ 2000 := by omega
  obtain ⟨r, c', h1, h2, h3, h4, h5⟩ := ih (i + 1) (acc ++ [m]) (1 - q) (by simp [hi]) (by omega) ⟨by omega, by omega⟩ (hacc.snoc ⟨m0, m1⟩)
  refine ⟨r, c', Ev.step (f := fun k => tocsinref02_minus.l0 k a b (acc ++ [m]) (1 - q) ((i + 1 : Nat) : Int)) (fun k => ?_) h1, h2, h3, h4, ?_⟩
  ·rw [tocsinref02_minus.l0, if_pos (by omega), if_pos (by omega), digit_at]
   simp only [Option.bind_some]
   rw [if_pos (by omega), rd_at, he.low, he.borrow, wrap_succ i gi]
  ·rw [V_snoc, hi, Bs] at h5
   rw [V_drop a i, V_drop b i]
   exact minus_arith _ _ _ _ _ _ _ _ _ _ _ es h5
theorem minus_ev (a b : List Int) (ha : Dg a) (hb : Dg b) (hla : a.length ≤ 1000) (hlb : b.length ≤ a.length) (hv : V b ≤ V a) : ∃ r, Ev (fun k => tocsinref02_minus.f k a b) r ∧ Dg r ∧ r.length ≤ 1000 ∧ V r = V a - V b := by
 obtain ⟨r, c, h1, h2, h3, h4, h5⟩ := minus_loop a b ha hb hla a.length 0 [] 0 rfl (by omega) (by omega) Dg.nil
 refine ⟨r, h1, h2, by omega, ?_⟩
 rw [List.drop_of_length_le hlb] at h5
 simp only [List.drop_zero, B0, V_nil] at h5
 have hr := V_range h2
 rw [h3] at hr
 have hP := Bpos a.length
 rcases (show c = 0 ∨ c = 1 by omega) with rfl | rfl
 ·simp at h5; omega
 ·simp at h5; omega
theorem cmp_loop (a b : List Int) (ha : Dg a) (hb : Dg b) (hl : a.length = b.length) (hla : a.length ≤ 1000) (d : Nat) : d ≤ a.length →
  ∃ c, Ev (fun k => tocsinref02_compare.l0 k a b ((d : Int) - 1)) c ∧ (c ≥ 0 ↔ V (b.take d) ≤ V (a.take d)) := by
 induction d with
 | zero =>
  intro _
  refine ⟨0, Ev.step (f := fun _ => some 0) (fun k => ?_) (Ev.now _), by simp [V_nil]⟩
  rw [tocsinref02_compare.l0, if_neg (by omega)]
 | succ d ih =>
  intro hd
  obtain ⟨c, h1, h2⟩ := ih (by omega)
  have hx := ha.getD d
  have hy := hb.getD d
  have ra := V_range (ha.take d)
  have rb := V_range (hb.take d)
  rw [List.length_take, Nat.min_eq_left (by omega)] at ra rb
  have ei : ((d + 1 : Nat) : Int) - 1 = (d : Int) := by omega
  rw [V_take a d (by omega), V_take b d (by omega)]
  have hP := Bpos d
  rcases Int.lt_trichotomy (a.getD d 0) (b.getD d 0) with g | g | g
  ·refine ⟨-1, Ev.step (f := fun _ => some (-1)) (fun k => ?_) (Ev.now _), ?_⟩
   ·rw [ei, tocsinref02_compare.l0, if_pos (by omega), if_pos (by omega), if_pos (by omega), if_pos (by omega), rd_at, rd_at, if_pos g]
   ·have : B d * (a.getD d 0 + 1) ≤ B d * b.getD d 0 := Int.mul_le_mul_of_nonneg_left (by omega) (by omega)
    rw [Int.mul_add, Int.mul_one] at this
    constructor
    ·intro h; omega
    ·intro h; omega
  ·refine ⟨c, Ev.step (f := fun k => tocsinref02_compare.l0 k a b ((d : Int) - 1)) (fun k => ?_) h1, ?_⟩
   ·rw [ei, tocsinref02_compare.l0, if_pos (by omega), if_pos (by omega), if_pos (by omega), if_pos (by omega), rd_at, rd_at, if_neg (by omega), if_neg (by omega), wrapN (by omega)]
   ·rw [h2, g]; omega
  ·refine ⟨1, Ev.step (f := fun _ => some 1) (fun k => ?_) (Ev.now _), ?_⟩
   ·rw [ei, tocsinref02_compare.l0, if_pos (by omega), if_pos (by omega), if_pos (by omega), if_pos (by omega), rd_at, rd_at, if_neg (by omega), if_pos (by omega)]
   ·have : B d * (b.getD d 0 + 1) ≤ B d * a.getD d 0 := Int.mul_le_mul_of_nonneg_left (by omega) (by omega)
    rw [Int.mul_add, Int.mul_one] at this
    constructor
    ·intro h; omega
    ·intro h; omega
theorem cmp_ev (a b : List Int) (ha : Dg a) (hb : Dg b) (za : Nz a) (zb : Nz b) (hla : a.length ≤ 1000) (hlb : b.length ≤ 1000) : ∃ c, Ev (fun k => tocsinref02_compare.f k a b) c ∧ (c ≥ 0 ↔ V b ≤ V a) := by
 rcases Nat.lt_trichotomy a.length b.length with h | h | h
 ·refine ⟨-1, Ev.congr (f := fun _ => some (-1)) (fun k => ?_) (Ev.now _), ?_⟩
  ·unfold tocsinref02_compare.f; rw [if_neg (by omega), if_pos (by omega)]
  ·have h1 : ¬ V b ≤ V a := fun hv => by
    have := Nz_len hb zb a.length (by have := V_range ha; omega)
    omega
   constructor
   ·intro h; omega
   ·intro h; exact absurd h h1
 ·obtain ⟨c, h1, h2⟩ := cmp_loop a b ha hb h hla a.length (Nat.le_refl _)
  rw [List.take_length, h, List.take_length] at h2
  refine ⟨c, Ev.congr (fun k => ?_) h1, h2⟩
  unfold tocsinref02_compare.f
  rw [if_pos (by omega), wrapN (by omega)]
 ·refine ⟨1, Ev.congr (f := fun _ => some 1) (fun k => ?_) (Ev.now _), ?_⟩
  ·unfold tocsinref02_compare.f; rw [if_neg (by omega), if_neg (by omega)]
  ·have h1 : V b ≤ V a := by
    rcases Int.lt_or_le (V a) (V b) with hv | hv
    ·have := Nz_len ha za b.length (by have := V_range hb; omega)
     omega
    ·exact hv
   constructor
   ·intro _; exact h1
   ·intro _; decide
theorem add_ev {a b : List Int} {na nb : Bool} {x y : Int} (wa : W a na x) (wb : W b nb y) (hla : a.length ≤ 1000) (hlb : b.length ≤ 1000) : ∃ l, Ev (fun k => tocsinref02_Add.f k a na b nb) (l, decide (x + y < 0)) ∧ W l (decide (x + y < 0)) (x + y) := by
 obtain ⟨da, za, va, sa⟩ := wa
 obtain ⟨db, zb, vb, sb⟩ := wb
 by_cases hs : na = nb
 ·obtain ⟨r, h1, h2, h3, h4⟩ := plus_ev a b da db hla hlb
  obtain ⟨l, t1, t2, t3, t4⟩ := trim_ev r na (by omega) h2
  have e : (if V r = 0 then false else na) = decide (x + y < 0) := by
   subst hs
   rw [sa, h4, va, vb]
   rw [sa] at sb
   have sb' := decide_eq_decide.1 sb
   split
   ·rw [decide_eq_false (by omega)]
   ·apply decide_eq_decide.2; omega
  rw [e] at t1
  refine ⟨l, Ev.congr (f := fun k => (tocsinref02_plus.f k a b).bind fun t175 => ((tocsinref02_trim.f k t175 na).bind fun bt178 => (some (bt178.1, bt178.2)))) (fun k => ?_) (Ev.bind h1 (Ev.bind t1 (Ev.now _))), t2, t3, ?_, rfl⟩
  ·unfold tocsinref02_Add.f; rw [if_pos (by rw [beq_iff_eq]; exact hs)]
  ·subst hs
   rw [sa] at sb
   have sb' := decide_eq_decide.1 sb
   rw [t4, h4, va, vb]; omega
 ·have hs' : ¬ (x < 0 ↔ y < 0) := fun h => hs (by rw [sa, sb]; exact decide_eq_decide.2 h)
  obtain ⟨c, c1, c2⟩ := cmp_ev a b da db za zb hla hlb
  have hne : ¬ (na == nb) = true := by rw [beq_iff_eq]; exact hs
  by_cases hv : V b ≤ V a
  ·have hlen : b.length ≤ a.length := Nz_len db zb a.length (by have := V_range da; omega)
   obtain ⟨r, h1, h2, h3, h4⟩ := minus_ev a b da db hla hlen hv
   obtain ⟨l, t1, t2, t3, t4⟩ := trim_ev r na (by omega) h2
   have e : (if V r = 0 then false else na) = decide (x + y < 0) := by
    rw [h4, va, vb, sa]
    split
    ·rw [decide_eq_false (by omega)]
    ·apply decide_eq_decide.2; omega
   rw [e] at t1
   refine ⟨l, Ev.congr (f := fun k => (tocsinref02_compare.f k a b).bind fun t182 => (if t182 ≥ 0 then ((tocsinref02_minus.f k a b).bind fun t183 => ((tocsinref02_trim.f k t183 na).bind fun bt186 => (some (bt186.1, bt186.2)))) else ((tocsinref02_minus.f k b a).bind fun t190 => ((tocsinref02_trim.f k t190 nb).bind fun bt193 => (some (bt193.1, bt193.2)))))) (fun k => ?_) (Ev.bind c1 ?_), t2, t3, ?_, rfl⟩
   ·unfold tocsinref02_Add.f; rw [if_neg hne]
   ·simp only [if_pos (c2.2 hv)]
    exact Ev.bind h1 (Ev.bind t1 (Ev.now _))
   ·rw [t4, h4, va, vb]; omega
  ·have hlen : a.length ≤ b.length := Nz_len da za b.length (by have := V_range db; omega)
   obtain ⟨r, h1, h2, h3, h4⟩ := minus_ev b a db da hlb hlen (by omega)
   obtain ⟨l, t1, t2, t3, t4⟩ := trim_ev r nb (by omega) h2
   have e : (if V r = 0 then false else nb) = decide (x + y < 0) := by
    rw [h4, va, vb, sb]
    split
    ·rw [decide_eq_false (by omega)]
    ·apply decide_eq_decide.2; omega
   rw [e] at t1
   refine ⟨l, Ev.congr (f := fun k => (tocsinref02_compare.f k a b).bind fun t182 => (if t182 ≥ 0 then ((tocsinref02_minus.f k a b).bind fun t183 => ((tocsinref02_trim.f k t183 na).bind fun bt186 => (some (bt186.1, bt186.2)))) else ((tocsinref02_minus.f k b a).bind fun t190 => ((tocsinref02_trim.f k t190 nb).bind fun bt193 => (some (bt193.1, bt193.2)))))) (fun k => ?_) (Ev.bind c1 ?_), t2, t3, ?_, rfl⟩
   ·unfold tocsinref02_Add.f; rw [if_neg hne]
   ·simp only [if_neg (fun h => hv (c2.1 h))]
    exact Ev.bind h1 (Ev.bind t1 (Ev.now _))
   ·rw [t4, h4, va, vb]; omega
theorem turn_ev {a : List Int} {na : Bool} {x : Int} (wa : W a na x) (hla : a.length ≤ 1000) : ∃ l, Ev (fun k => tocsinref02_Turn.f k a na) (l, decide (-x < 0)) ∧ W l (decide (-x < 0)) (-x) := by
 obtain ⟨da, za, va, sa⟩ := wa
 obtain ⟨l, t1, t2, t3, t4⟩ := trim_ev a (!na) (by omega) da
 have e : (if V a = 0 then false else !na) = decide (-x < 0) := by
  rw [va, sa]
  split
  ·rw [decide_eq_false (by omega)]
  ·rw [← decide_not]; apply decide_eq_decide.2; omega
 rw [e] at t1
 exact ⟨l, Ev.bind t1 (Ev.now _), t2, t3, by rw [t4, va]; omega, rfl⟩

theorem wrap_add (i j : Nat) (h : i + j ≤ 4000) : wrap64 ((i : Int) + (j : Int)) = ((i + j : Nat) : Int) := by rw [wrapN (by omega)]; omega
structure Cell (x y r c m q : Int) : Prop where
 low : (Int.tmod (IntKind.u64.wrap ((IntKind.u64.wrap ((IntKind.u64.wrap ((IntKind.u64.wrap x) * (IntKind.u64.wrap y))) + (IntKind.u64.wrap r))) + (IntKind.u64.wrap c))) 65536) % 4294967296 = m
 high : (IntKind.u64.wrap (Int.tdiv (IntKind.u64.wrap ((IntKind.u64.wrap ((IntKind.u64.wrap ((IntKind.u64.wrap x) * (IntKind.u64.wrap y))) + (IntKind.u64.wrap r))) + (IntKind.u64.wrap c))) 65536)) % 4294967296 = q
theorem cell (x y r c : Int) (hx : 0 ≤ x ∧ x < 65536) (hy : 0 ≤ y ∧ y < 65536) (hr : 0 ≤ r ∧ r < 65536) (hc : 0 ≤ c ∧ c < 65536) : ∃ m q : Int, Cell x y r c m q ∧ 0 ≤ m ∧ m < 65536 ∧ 0 ≤ q ∧ q < 65536 ∧ x * y + r + c = m + 65536 * q := by
 have hp0 : 0 ≤ x * y := Int.mul_nonneg hx.1 hy.1
 have hp1 : x * y ≤ 65535 * 65535 := Int.le_trans (Int.mul_le_mul_of_nonneg_right (show x ≤ 65535 by omega) hy.1) (Int.mul_le_mul_of_nonneg_left (by omega) (by decide))
 generalize hp : x * y = p at *
 have ht : IntKind.u64.wrap ((IntKind.u64.wrap ((IntKind.u64.wrap ((IntKind.u64.wrap x) * (IntKind.u64.wrap y))) + (IntKind.u64.wrap r))) + (IntKind.u64.wrap c)) = p + r + c := by
  rw [u64_in (x := x) (by omega), u64_in (x := y) (by omega), hp, u64_in (x := p) (by omega), u64_in (x := r) (by omega), u64_in (x := p + r) (by omega), u64_in (x := c) (by omega), u64_in (by omega)]
 refine ⟨(p + r + c) % 65536, (p + r + c) / 65536, ⟨?_, ?_⟩, by omega, by omega, by omega, by omega, by omega⟩
 ·rw [ht, Int.tmod_eq_emod_of_nonneg (by omega)]; exact Int.emod_eq_of_lt (by omega) (by omega)
 ·rw [ht, Int.tdiv_eq_ediv_of_nonneg (by omega), u64_in (x := (p + r + c) / 65536) (by omega)]; exact Int.emod_eq_of_lt (by omega) (by omega)
theorem mul_arith (P a y z r c m q s : Int) (es : a * y + r + c = m + 65536 * q) : s + P * (m - r) + 65536 * P * (q + a * z) = s + P * (c + a * (y + 65536 * z)) := by
 have h1 : c + a * (y + 65536 * z) = (m - r) + 65536 * (q + a * z) := by
  rw [dist2]
  have h2 : 65536 * a * z = 65536 * (a * z) := Int.mul_assoc ..
  rw [h2]
  generalize a * y = u at *
  generalize a * z = v at *
  omega
 rw [h1, dist2, Int.add_assoc]
theorem mul_inner (a b : List Int) (na nb : Bool) (ha : Dg a) (hb : Dg b) (hla : a.length ≤ 1000) (hlb : b.length ≤ 1000) (i : Nat) (hi : i < a.length) (C : Int) (hC : C < B (i + 1 + b.length)) (d : Nat) : ∀ (j : Nat) (r : List Int) (c : Int), j + d = b.length + 1 → Dg r → r.length = a.length + b.length + 1 → (0 ≤ c ∧ c < 65536) →
  V r + B (i + j) * (c + a.getD i 0 * V (b.drop j)) = C → ∃ r', Dg r' ∧ r'.length = a.length + b.length + 1 ∧ V r' = C ∧ ∀ res, Ev (fun k => tocsinref02_Mul.l0 k r' ((i + 1 : Nat) : Int) a na b nb) res → Ev (fun k => tocsinref02_Mul.l1 k r (i : Int) c (j : Int) a na b nb) res := by
 have stop : ∀ (j : Nat) (r : List Int), b.length ≤ j → j ≤ b.length + 1 → Dg r → r.length = a.length + b.length + 1 → V r + B (i + j) * (0 + a.getD i 0 * V (b.drop j)) = C → ∃ r', Dg r' ∧ r'.length = a.length + b.length + 1 ∧ V r' = C ∧ ∀ res, Ev (fun k => tocsinref02_Mul.l0 k r' ((i + 1 : Nat) : Int) a na b nb) res → Ev (fun k => tocsinref02_Mul.l1 k r (i : Int) 0 (j : Int) a na b nb) res := by
  intro j r hj hj2 hr hl hv
  rw [List.drop_of_length_le hj, V_nil, Int.mul_zero, Int.add_zero, Int.mul_zero, Int.add_zero] at hv
  refine ⟨r, hr, hl, hv, fun res h => Ev.step (f := fun k => tocsinref02_Mul.l0 k r ((i + 1 : Nat) : Int) a na b nb) (fun k => ?_) h⟩
  rw [tocsinref02_Mul.l1, if_neg (by omega), if_neg (by decide), wrap_succ i (by omega)]
 induction d with
 | zero =>
  intro j r c hj hr hl hc hv
  have hz : c = 0 := by
   rcases Int.lt_or_le 0 c with h | h
   ·have hr0 := V_range hr
    rw [List.drop_of_length_le (by omega), V_nil, Int.mul_zero, Int.add_zero, show i + j = i + 1 + b.length by omega] at hv
    have hP := Bpos (i + 1 + b.length)
    have h1 : B (i + 1 + b.length) * 1 ≤ B (i + 1 + b.length) * c := Int.mul_le_mul_of_nonneg_left (by omega) (by omega)
    rw [Int.mul_one] at h1
    generalize B (i + 1 + b.length) = P at *
    generalize P * c = u at *
    omega
   ·omega
  subst hz
  exact stop j r (by omega) (by omega) hr hl hv
 | succ d ih =>
  intro j r c hj hr hl hc hv
  by_cases hgo : j < b.length ∨ c > 0
  ·have hx := ha.getD i
   have hy := hb.getD j
   have hrr := hr.getD (i + j)
   have hij : i + j < r.length := by omega
   have hw : i + j ≤ 4000 := by omega
   have hj2 : j ≤ 2000 := by omega
   have hdj : j + 1 + d = b.length + 1 := by omega
   obtain ⟨m, q, hcell, m0, m1, q0, q1, es⟩ := cell (a.getD i 0) (b.getD j 0) (r.getD (i + j) 0) c hx hy hrr hc
   have hv' : V (r.set (i + j) m) + B (i + (j + 1)) * (q + a.getD i 0 * V (b.drop (j + 1))) = C := by
    rw [V_set r (i + j) m hij, ← Nat.add_assoc, Bs, mul_arith _ _ _ _ _ _ _ _ _ es, ← V_drop b j]
    exact hv
   have hlen : (r.set (i + j) m).length = a.length + b.length + 1 := by rw [List.length_set]; exact hl
   obtain ⟨r', n1, n2, n3, hnx⟩ := ih (j + 1) (r.set (i + j) m) q hdj (hr.set (i + j) ⟨m0, m1⟩) hlen ⟨q0, q1⟩ hv'
   have hi0 : (0 : Int) ≤ (i : Int) := by omega
   have hia : (i : Int) < (a.length : Int) := by omega
   have hij0 : (0 : Int) ≤ ((i + j : Nat) : Int) := by omega
   have hijl : ((i + j : Nat) : Int) < (r.length : Int) := by omega
   refine ⟨r', n1, n2, n3, fun res h => Ev.step (f := fun k => tocsinref02_Mul.l1 k (r.set (i + j) m) (i : Int) q ((j + 1 : Nat) : Int) a na b nb) (fun k => ?_) (hnx res h)⟩
   rw [tocsinref02_Mul.l1]
   by_cases g : (j : Int) < (b.length : Int)
   ·rw [if_pos g, if_pos hi0, if_pos hia, digit_at, Option.bind_some, wrap_add i j hw, if_pos hij0, if_pos hijl, rd_at, rd_at, hcell.low, hcell.high, wrap_succ j hj2, Int.toNat_natCast]
   ·have hc0 : c > 0 := by
     rcases hgo with h | h
     ·exact absurd (by omega) g
     ·exact h
    rw [if_neg g, if_pos hc0, if_pos hi0, if_pos hia, digit_at, Option.bind_some, wrap_add i j hw, if_pos hij0, if_pos hijl, rd_at, rd_at, hcell.low, hcell.high, wrap_succ j hj2, Int.toNat_natCast]
  ·have hz : c = 0 := by omega
   subst hz
   exact stop j r (by omega) (by omega) hr hl hv
theorem mul_lt {x y X Y : Int} (hx : 0 ≤ x) (hX : x < X) (hy : 0 ≤ y) (hY : y < Y) : x * y < X * Y :=
 Int.lt_of_le_of_lt (Int.mul_le_mul_of_nonneg_left (Int.le_of_lt hY) hx) (Int.mul_lt_mul_of_pos_right hX (by omega))
theorem mul_outer (a b : List Int) (na nb : Bool) (ha : Dg a) (hb : Dg b) (hla : a.length ≤ 1000) (hlb : b.length ≤ 1000) (d : Nat) : ∀ (i : Nat) (r : List Int), i + d = a.length → Dg r → r.length = a.length + b.length + 1 → V r = V (a.take i) * V b →
  ∃ r', Dg r' ∧ r'.length = a.length + b.length + 1 ∧ V r' = V a * V b ∧ ∀ res, Ev (fun k => (tocsinref02_trim.f k r' (!(na == nb))).bind fun bt209 => (some (bt209.1, bt209.2))) res → Ev (fun k => tocsinref02_Mul.l0 k r (i : Int) a na b nb) res := by
 induction d with
 | zero =>
  intro i r hi hr hl hv
  rw [List.take_of_length_le (by omega)] at hv
  refine ⟨r, hr, hl, hv, fun res h => Ev.step (fun k => ?_) h⟩
  rw [tocsinref02_Mul.l0, if_neg (by omega)]
 | succ d ih =>
  intro i r hi hr hl hv
  have hia : i < a.length := by omega
  have hC : V (a.take (i + 1)) * V b < B (i + 1 + b.length) := by
   have h1 := V_range (ha.take (i + 1))
   have h2 := V_range hb
   rw [List.length_take, Nat.min_eq_left hia] at h1
   rw [Badd]
   exact mul_lt h1.1 h1.2 h2.1 h2.2
  have hstart : V r + B (i + 0) * (0 + a.getD i 0 * V (b.drop 0)) = V (a.take (i + 1)) * V b := by
   rw [hv, V_take a i hia, Int.add_mul, Nat.add_zero, Int.zero_add, List.drop_zero, Int.mul_assoc]
  obtain ⟨r1, h1, h2, h3, h4⟩ := mul_inner a b na nb ha hb hla hlb i hia (V (a.take (i + 1)) * V b) hC (b.length + 1) 0 r 0 (Nat.zero_add _) hr hl (by decide) hstart
  obtain ⟨r2, g1, g2, g3, g4⟩ := ih (i + 1) r1 (by omega) h1 h2 h3
  refine ⟨r2, g1, g2, g3, fun res h => Ev.step (f := fun k => tocsinref02_Mul.l1 k r (i : Int) 0 ((0 : Nat) : Int) a na b nb) (fun k => ?_) (h4 res (g4 res h))⟩
  rw [tocsinref02_Mul.l0, if_pos (by omega)]
  rfl
theorem mul_ev {a b : List Int} {na nb : Bool} {x y : Int} (wa : W a na x) (wb : W b nb y) (hla : a.length ≤ 1000) (hlb : b.length ≤ 1000) : ∃ l, Ev (fun k => tocsinref02_Mul.f k a na b nb) (l, decide (x * y < 0)) ∧ W l (decide (x * y < 0)) (x * y) := by
 obtain ⟨da, za, va, sa⟩ := wa
 obtain ⟨db, zb, vb, sb⟩ := wb
 have hn : (wrap64 ((wrap64 ((a.length : Int) + (b.length : Int))) + 1)) = ((a.length + b.length + 1 : Nat) : Int) := by
  rw [wrap_add _ _ (by omega), wrap_succ _ (by omega)]
 have hval : V a * V b = ((x * y).natAbs : Int) := by rw [va, vb, Int.natAbs_mul, Int.natCast_mul]
 have hz : V (List.replicate (a.length + b.length + 1) 0) = V (a.take 0) * V b := by rw [V_zeros, List.take_zero, V_nil, Int.zero_mul]
 have hdz : Dg (List.replicate (a.length + b.length + 1) 0) := fun d hd => by rw [List.mem_replicate] at hd; omega
 have hsign : (if ((x * y).natAbs : Int) = 0 then false else !(na == nb)) = decide (x * y < 0) := by
  rw [sa, sb]
  clear hval hz hdz hn
  rcases Int.lt_trichotomy x 0 with h1 | h1 | h1
  ·rcases Int.lt_trichotomy y 0 with h2 | h2 | h2
   ·have := Int.mul_pos_of_neg_of_neg h1 h2
    rw [decide_eq_true h1, decide_eq_true h2, decide_eq_false (by omega)]; split <;> rfl
   ·subst h2; simp
   ·have := Int.mul_neg_of_neg_of_pos h1 h2
    rw [decide_eq_true h1, decide_eq_false (by omega : ¬ y < 0), decide_eq_true this, if_neg (by omega)]; rfl
  ·subst h1; simp
  ·rcases Int.lt_trichotomy y 0 with h2 | h2 | h2
   ·have := Int.mul_neg_of_pos_of_neg h1 h2
    rw [decide_eq_false (by omega : ¬ x < 0), decide_eq_true h2, decide_eq_true this, if_neg (by omega)]; rfl
   ·subst h2; simp
   ·have := Int.mul_pos h1 h2
    rw [decide_eq_false (by omega : ¬ x < 0), decide_eq_false (by omega : ¬ y < 0), decide_eq_false (by omega)]; split <;> rfl
 obtain ⟨r, hr, hrl, hrv, hrun⟩ := mul_outer a b na nb da db hla hlb a.length 0 (List.replicate (a.length + b.length + 1) 0) (Nat.zero_add _) hdz (List.length_replicate ..) hz
 obtain ⟨l, t1, t2, t3, t4⟩ := trim_ev r (!(na == nb)) (by omega) hr
 rw [hrv, hval] at t1 t4
 rw [hsign] at t1
 refine ⟨l, Ev.congr (fun k => ?_) (hrun _ (Ev.bind t1 (Ev.now _))), t2, t3, t4, rfl⟩
 unfold tocsinref02_Mul.f
 rw [hn, if_pos (by omega), Int.toNat_natCast, if_pos (by omega)]
 rfl

theorem wrap_pred (d : Nat) (h : d ≤ 2000) : wrap64 ((d : Int) - 1) = (d : Int) - 1 := by rw [wrapN (by omega)]
theorem int_loop (l : List Int) (neg : Bool) (hl : Dg l) (h4 : l.length ≤ 4) (r : Int × Int) (hr : Ev (fun k => tocsinref02_Int.l0 k (V l) (-1) l neg) r) (d : Nat) : d ≤ l.length → Ev (fun k => tocsinref02_Int.l0 k (V (l.drop d)) ((d : Int) - 1) l neg) r := by
 induction d with
 | zero =>
  intro _
  rw [List.drop_zero]
  exact hr
 | succ d ih =>
  intro hd
  have h1 := ih (by omega)
  have hx := hl.getD d
  have hv := V_range (hl.drop d)
  have hB := Bmono (show (l.drop d).length ≤ 4 by rw [List.length_drop]; omega)
  have hv1 := V_range (hl.drop (d + 1))
  rw [B4] at hB
  rw [V_drop l d] at hv h1
  have e : IntKind.u64.wrap ((IntKind.u64.wrap (V (l.drop (d + 1)) * 65536)) + (IntKind.u64.wrap (l.getD d 0))) = l.getD d 0 + 65536 * V (l.drop (d + 1)) := by
   rw [u64_in (x := V (l.drop (d + 1)) * 65536) (by omega), u64_in (x := l.getD d 0) (by omega), u64_in (by omega)]
   omega
  have ei : ((d + 1 : Nat) : Int) - 1 = (d : Int) := by omega
  refine Ev.step (f := fun k => tocsinref02_Int.l0 k (l.getD d 0 + 65536 * V (l.drop (d + 1))) ((d : Int) - 1) l neg) (fun k => ?_) h1
  have g0 : (d : Int) ≥ 0 := by omega
  have g1 : (d : Int) < (l.length : Int) := by omega
  rw [ei, tocsinref02_Int.l0, if_pos g0, if_pos g0, if_pos g1, rd_at, e, wrap_pred d (by omega)]
theorem int_ev {l : List Int} {neg : Bool} {n : Int} (w : W l neg n) : Ev (fun k => tocsinref02_Int.f k l neg) (Hd.val n, Hd.err n) := by
 obtain ⟨dg, nz, hv, hs⟩ := w
 by_cases h4 : l.length ≤ 4
 ·have hend : Ev (fun k => tocsinref02_Int.l0 k (V l) (-1) l neg) (Hd.val n, Hd.err n) := by
   rw [hv, hs]
   by_cases hn : n < 0
   ·rw [decide_eq_true hn]
    refine Ev.step (f := fun k => tocsinref02_Int.j1 k (n.natAbs : Int) (decide ((n.natAbs : Int) ≤ 9223372036854775808)) l true) (fun k => ?_) (Ev.step (f := fun _ => some (Hd.val n, Hd.err n)) (fun k => ?_) (Ev.now _))
    ·rw [tocsinref02_Int.l0, if_neg (by omega), if_pos rfl]
    ·rw [tocsinref02_Int.j1]
     by_cases hr : (n.natAbs : Int) ≤ 9223372036854775808
     ·have hin : Hd.inR n := by unfold Hd.inR; omega
      rw [if_pos (decide_eq_true hr)]
      unfold Hd.val Hd.err
      rw [if_pos hin, if_pos hin]
      have e : wrap64 (IntKind.u64.wrap (-(n.natAbs : Int))) = n := by
       simp [wrap64, IntKind.wrap, IntKind.signed, IntKind.bits]
       omega
      rw [e]
     ·have hin : ¬ Hd.inR n := by unfold Hd.inR; omega
      rw [if_neg (by rw [decide_eq_true_eq]; exact hr), if_pos rfl]
      unfold Hd.val Hd.err
      rw [if_neg hin, if_neg hin]
   ·rw [decide_eq_false hn]
    refine Ev.step (f := fun k => tocsinref02_Int.j1 k (n.natAbs : Int) false l false) (fun k => ?_) (Ev.step (f := fun _ => some (Hd.val n, Hd.err n)) (fun k => ?_) (Ev.now _))
    ·rw [tocsinref02_Int.l0, if_neg (by omega), if_neg (by decide)]
    ·rw [tocsinref02_Int.j1, if_neg (by decide), if_neg (by decide)]
     by_cases hr : (n.natAbs : Int) < 9223372036854775808
     ·have hin : Hd.inR n := by unfold Hd.inR; omega
      rw [if_pos hr]
      unfold Hd.val Hd.err
      rw [if_pos hin, if_pos hin]
      have e : wrap64 (n.natAbs : Int) = n := by rw [wrapN (by omega)]; omega
      rw [e]
     ·have hin : ¬ Hd.inR n := by unfold Hd.inR; omega
      rw [if_neg hr]
      unfold Hd.val Hd.err
      rw [if_neg hin, if_neg hin]
  have h := int_loop l neg dg h4 _ hend l.length (Nat.le_refl _)
  rw [List.drop_of_length_le (Nat.le_refl _), V_nil] at h
  refine Ev.congr (fun k => ?_) h
  unfold tocsinref02_Int.f
  rw [if_neg (by omega), wrap_pred _ (by omega)]
 ·have hlow := Nz_low dg nz (by rintro rfl; simp at h4)
  have hB := Bmono (show 4 ≤ l.length - 1 by omega)
  rw [B4] at hB
  have hin : ¬ Hd.inR n := by unfold Hd.inR; omega
  refine Ev.congr (f := fun _ => some ((0 : Int), (4 : Int))) (fun k => ?_) ?_
  ·unfold tocsinref02_Int.f; rw [if_pos (by omega)]
  ·unfold Hd.val Hd.err
   rw [if_neg hin, if_neg hin]
   exact Ev.now _
theorem W.len {l : List Int} {neg : Bool} {n : Int} (w : W l neg n) (k : Nat) (h : (n.natAbs : Int) < B k) : l.length ≤ k := Nz_len w.dg w.nz k (by rw [w.val]; exact h)
end Go.Proofs.YtccicjiadahmnaaDoor.Dig
