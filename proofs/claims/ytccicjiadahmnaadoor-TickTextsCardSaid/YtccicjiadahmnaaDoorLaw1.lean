/- Clamps, floors, and what is taken back: the plain laws. -/
import Derived.Test.YtccicjiadahmnaaDoorT1
import Derived.Laws.BitsLemmas
namespace Go.Proofs.YtccicjiadahmnaaDoor.Law1
open Go.RowKit Go.Proofs.YtccicjiadahmnaaDoor Go.Proofs.YtccicjiadahmnaaDoor.T Go.Proofs.YtccicjiadahmnaaDoorW.PrintWords Go.Proofs.YtccicjiadahmnaaDoorW.PrintLast Go.Proofs.YtccicjiadahmnaaDoorW.PrintMore
set_option linter.unusedVariables false

theorem wf64 {a : Int} (h : (Lit.int .i64 a).wf = true) : Hd.inR a := by
  simp [Lit.wf, IntKind.min, IntKind.max, IntKind.signed, IntKind.bits] at h
  unfold Hd.inR
  omega
theorem wf32 {a : Int} (h : (Lit.int .i32 a).wf = true) : -2147483648 ≤ a ∧ a ≤ 2147483647 := by
  simp [Lit.wf, IntKind.min, IntKind.max, IntKind.signed, IntKind.bits] at h
  omega
theorem fixed_true : Hd.tocsinlaw02_fixed.f = some true := rfl
theorem clamps : tocsinlaw02_TickClamps.Pure := by
  intro a b c _ _ _
  unfold tocsinlaw02_TickClamps.f tick_Clamp.f
  rw [fixed_true]
  simp only [Option.bind_some, if_true]
  by_cases h1 : a < b
  · rw [if_pos h1, Option.bind_some, if_pos h1]; simp
  · rw [if_neg h1]
    by_cases h2 : a > c
    · rw [if_pos h2, Option.bind_some, if_neg h1, if_pos h2]; simp
    · rw [if_neg h2, Option.bind_some, if_neg h1, if_neg h2]; simp
theorem wrap_in {x : Int} (h : Hd.inR x) : wrap64 x = x := by unfold Hd.inR at h; simp [wrap64]; omega
theorem val_in {x : Int} (h : Hd.inR x) : Hd.val x = x := by unfold Hd.val; rw [if_pos h]
theorem err_in {x : Int} (h : Hd.inR x) : Hd.err x = 0 := by unfold Hd.err; rw [if_pos h]
theorem muldiv_in {a b c : Int} (ha : Hd.inR a) (hb : Hd.inR b) (hc : Hd.inR c) (h0 : 0 < c) : Hd.tick_MulDiv.f a b c = some (Hd.val (a * b / c), Hd.err (a * b / c)) := by
  unfold Hd.tick_MulDiv.f Hd.mdv
  rw [if_pos ⟨ha, hb, hc⟩, if_neg (by omega)]
theorem mul32 {a b : Int} (ha : -2147483648 ≤ a ∧ a ≤ 2147483647) (hb : -2147483648 ≤ b ∧ b ≤ 2147483647) : -4611686018427387904 ≤ a * b ∧ a * b ≤ 4611686018427387904 := by
  have key : ∀ x y : Int, 0 ≤ x → x ≤ 2147483648 → 0 ≤ y → y ≤ 2147483648 → 0 ≤ x * y ∧ x * y ≤ 4611686018427387904 := by
    intro x y x0 x1 y0 y1
    refine ⟨Int.mul_nonneg x0 y0, ?_⟩
    have h1 : x * y ≤ 2147483648 * y := Int.mul_le_mul_of_nonneg_right x1 y0
    omega
  rcases Int.le_total 0 a with h1 | h1 <;> rcases Int.le_total 0 b with h2 | h2
  · have := key a b h1 (by omega) h2 (by omega); omega
  · have := key a (-b) h1 (by omega) (by omega) (by omega); rw [Int.mul_neg] at this; omega
  · have := key (-a) b (by omega) (by omega) h2 (by omega); rw [Int.neg_mul] at this; omega
  · have := key (-a) (-b) (by omega) (by omega) (by omega) (by omega); rw [Int.neg_mul, Int.mul_neg, Int.neg_neg] at this; omega
theorem floors : tocsinlaw02_TickFloors.Pure := by
  intro a b c ha hb hc
  have ra := wf32 ha
  have rb := wf32 hb
  have rc := wf32 hc
  have ia : Hd.inR a := by unfold Hd.inR; omega
  have ib : Hd.inR b := by unfold Hd.inR; omega
  have ic : Hd.inR c := by unfold Hd.inR; omega
  unfold tocsinlaw02_TickFloors.f
  rw [fixed_true]
  simp only [Option.bind_some, if_true, wrap_in ia, wrap_in ib, wrap_in ic]
  by_cases h : c ≤ 0
  · rw [if_pos h]
    unfold Hd.tick_MulDiv.f
    rw [if_pos ⟨ia, ib, ic⟩, if_pos h]
    rfl
  · rw [if_neg h]
    have hp := mul32 ra rb
    have h0 : 0 < c := by omega
    rw [muldiv_in ia ib ic h0]
    have iP : Hd.inR (a * b) := by unfold Hd.inR; omega
    rw [wrap_in iP]
    generalize a * b = P at *
    have e := Int.mul_ediv_add_emod P c
    have m0 := Int.emod_nonneg P (show c ≠ 0 by omega)
    have m1 := Int.emod_lt_of_pos P h0
    have hq : -4611686018427387904 ≤ P / c ∧ P / c ≤ 4611686018427387904 := by
      have a1 : P / c < 4611686018427387905 := (Int.ediv_lt_iff_lt_mul h0).2 (by omega)
      have a2 : -4611686018427387904 ≤ P / c := (Int.le_ediv_iff_mul_le h0).2 (by omega)
      omega
    have iQ : Hd.inR (P / c) := by unfold Hd.inR; omega
    rw [val_in iQ, err_in iQ]
    simp only [Option.bind_some, if_true]
    rw [Int.mul_comm] at e
    have iM : Hd.inR (P / c * c) := by unfold Hd.inR; omega
    rw [wrap_in iM, wrap_in (by unfold Hd.inR; omega), if_pos (by omega)]
    simp only [Option.some.injEq, decide_eq_true_eq]
    omega
/-- Both words' common bits twice, and those that differ. -/
theorem nat_halves : ∀ (n x y : Nat), x < 2 ^ n → y < 2 ^ n → 2 * (x &&& y) + (x ^^^ y) = x + y
  | 0, x, y, hx, hy => by
    obtain rfl : x = 0 := by simpa using hx
    obtain rfl : y = 0 := by simpa using hy
    rfl
  | n + 1, x, y, hx, hy => by
    have ih := nat_halves n (x / 2) (y / 2) (by rw [Nat.pow_succ] at hx; omega) (by rw [Nat.pow_succ] at hy; omega)
    have a1 : (x &&& y) / 2 = x / 2 &&& y / 2 := Nat.and_div_two
    have a2 : (x ^^^ y) / 2 = x / 2 ^^^ y / 2 := Nat.xor_div_two
    have b1 : (x &&& y) % 2 = (x % 2) * (y % 2) := by
      rw [show (2 : Nat) = 2 ^ 1 from rfl, Nat.and_mod_two_pow]
      rcases Nat.mod_two_eq_zero_or_one x with h | h <;> rcases Nat.mod_two_eq_zero_or_one y with k | k <;> simp [h, k]
    have b2 : (x ^^^ y) % 2 = (x + y) % 2 := by
      rw [show (2 : Nat) = 2 ^ 1 from rfl, Nat.xor_mod_two_pow]
      rcases Nat.mod_two_eq_zero_or_one x with h | h <;> rcases Nat.mod_two_eq_zero_or_one y with k | k <;> simp [h, k] <;> omega
    rw [← a1, ← a2] at ih
    rcases Nat.mod_two_eq_zero_or_one x with h | h <;> rcases Nat.mod_two_eq_zero_or_one y with k | k <;> simp only [h, k] at b1 <;> omega
theorem top_bit (x : Nat) (h : x < 2 ^ 64) : x / 2 ^ 63 = 0 ∨ x / 2 ^ 63 = 1 := by
  have : x / 2 ^ 63 < 2 := (Nat.div_lt_iff_lt_mul (by decide)).2 (by omega)
  omega
/-- The middle, as the program reckons it. -/
theorem half_eq (a b : Int) (ha : Hd.inR a) (hb : Hd.inR b) : tick_Half.f a b = some ((a + b) / 2) := by
  unfold tick_Half.f
  have wr : ∀ z : Nat, z < 2 ^ 64 → IntKind.i64.wrap (z : Int) = (z : Int) - 18446744073709551616 * ((z / 2 ^ 63 : Nat) : Int) := by
    intro z hz
    rw [IntKind.wrap_i64]
    rcases top_bit z hz with h | h <;> omega
  have tn : ∀ z : Int, (BitVec.ofInt 64 z).toNat = (z % 18446744073709551616).toNat := by
    intro z
    rw [BitVec.toNat_ofInt]
    rfl
  have e1 : Go.bits .and .i64 a b = IntKind.i64.wrap (((a % 18446744073709551616).toNat &&& (b % 18446744073709551616).toNat : Nat) : Int) := by
    show IntKind.i64.wrap ((BitVec.ofInt 64 a &&& BitVec.ofInt 64 b).toNat : Nat) = _
    rw [BitVec.toNat_and, tn, tn]
  have e2 : Go.bits .xor .i64 a b = IntKind.i64.wrap (((a % 18446744073709551616).toNat ^^^ (b % 18446744073709551616).toNat : Nat) : Int) := by
    show IntKind.i64.wrap ((BitVec.ofInt 64 a ^^^ BitVec.ofInt 64 b).toNat : Nat) = _
    rw [BitVec.toNat_xor, tn, tn]
  rw [e1, e2]
  unfold Hd.inR at ha hb
  have hA : (a % 18446744073709551616).toNat < 2 ^ 64 := by omega
  have hB : (b % 18446744073709551616).toNat < 2 ^ 64 := by omega
  have hsum := nat_halves 64 _ _ hA hB
  have hda : ((a % 18446744073709551616).toNat &&& (b % 18446744073709551616).toNat) / 2 ^ 63 = (a % 18446744073709551616).toNat / 2 ^ 63 &&& (b % 18446744073709551616).toNat / 2 ^ 63 := Nat.and_div_two_pow
  have hdx : ((a % 18446744073709551616).toNat ^^^ (b % 18446744073709551616).toNat) / 2 ^ 63 = (a % 18446744073709551616).toNat / 2 ^ 63 ^^^ (b % 18446744073709551616).toNat / 2 ^ 63 := Nat.xor_div_two_pow
  have ra : a = (a % 18446744073709551616).toNat - 18446744073709551616 * (((a % 18446744073709551616).toNat / 2 ^ 63 : Nat) : Int) := by omega
  have rb : b = (b % 18446744073709551616).toNat - 18446744073709551616 * (((b % 18446744073709551616).toNat / 2 ^ 63 : Nat) : Int) := by omega
  have hand : (a % 18446744073709551616).toNat &&& (b % 18446744073709551616).toNat < 2 ^ 64 := Nat.and_lt_two_pow _ hB
  have hxor := Nat.xor_lt_two_pow hA hB
  rw [wr _ hand, wr _ hxor]
  generalize (a % 18446744073709551616).toNat = A at *
  generalize (b % 18446744073709551616).toNat = B at *
  generalize A &&& B = X at *
  generalize A ^^^ B = Y at *
  have key : 2 * ((X : Int) - 18446744073709551616 * ((X / 2 ^ 63 : Nat) : Int)) + ((Y : Int) - 18446744073709551616 * ((Y / 2 ^ 63 : Nat) : Int)) = a + b := by
    rw [hda, hdx]
    rcases top_bit A hA with h | h <;> rcases top_bit B hB with k | k <;> simp only [h, k] at ra rb ⊢ <;> simp <;> omega
  generalize (X : Int) - 18446744073709551616 * ((X / 2 ^ 63 : Nat) : Int) = P at *
  generalize (Y : Int) - 18446744073709551616 * ((Y / 2 ^ 63 : Nat) : Int) = Q at *
  rw [wrap_in (by unfold Hd.inR; omega)]
  congr 1
  omega
theorem backs : tocsinlaw02_TickBacks.Pure := by
  intro a b ha hb
  have ia := wf64 ha
  have ib := wf64 hb
  have hj : tocsinlaw02_TickBacks.j0 1 a b = some true := by
    simp only [tocsinlaw02_TickBacks.j0]
    rw [half_eq a b ia ib, half_eq b a ib ia]
    simp only [Option.bind_some]
    unfold Hd.inR at ia ib
    have hm : 0 < mx b 1 := by unfold mx; split <;> omega
    have im : Hd.inR (mx b 1) := by unfold mx Hd.inR; split <;> omega
    rw [if_neg (by unfold mn; split <;> omega), if_neg (by unfold mx; split <;> omega), if_pos (by omega), muldiv_in (by unfold Hd.inR; omega) im im hm, Int.mul_ediv_cancel _ (by omega)]
    have ia' : Hd.inR a := ia
    rw [val_in ia', err_in ia']
    simp
  refine ⟨1, ?_⟩
  unfold tocsinlaw02_TickBacks.f
  rw [fixed_true]
  simp only [Option.bind_some, if_true]
  unfold Hd.tick_Add.f
  rw [if_pos ⟨ia, ib⟩]
  simp only [Option.bind_some]
  by_cases hs : Hd.inR (a + b)
  · rw [val_in hs, err_in hs]
    simp only [if_true]
    unfold Hd.tick_Sub.f
    rw [if_pos ⟨hs, ib⟩, show a + b - b = a by omega, val_in ia, err_in ia]
    simp only [Option.bind_some, if_true]
    exact hj
  · have : Hd.err (a + b) = 4 := by unfold Hd.err; rw [if_neg hs]
    rw [this, if_neg (by decide)]
    exact hj
end Go.Proofs.YtccicjiadahmnaaDoor.Law1
