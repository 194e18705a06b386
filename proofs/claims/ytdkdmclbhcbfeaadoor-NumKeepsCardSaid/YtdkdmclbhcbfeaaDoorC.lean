/- Products and sums, walked. -/
import Derived.Test.YtdkdmclbhcbfeaaDoorB
import Derived.Below
namespace Go.Proofs.YtdkdmclbhcbfeaaDoor.Nu
set_option linter.unusedVariables false
set_option linter.unusedSimpArgs false
open Go.RowKit Go.Proofs.YtdkdmclbhcbfeaaDoor.Fl
theorem nan_cut (n : Nat) : nan ((n % 2) * 2 ^ 63 + 0x7ff0000000000000 + 1 + (n / 2) % (2 ^ 52 - 1)) = true ∧ ((n % 2) * 2 ^ 63 + 0x7ff0000000000000 + 1 + (n / 2) % (2 ^ 52 - 1)) < 18446744073709551616 := by
  have h1 : n % 2 < 2 := Nat.mod_lt _ (by decide)
  have h2 : (n / 2) % (2 ^ 52 - 1) < 2 ^ 52 - 1 := Nat.mod_lt _ (by decide)
  generalize n % 2 = a at *
  generalize (n / 2) % (2 ^ 52 - 1) = c at *
  unfold nan rung
  rw [decide_eq_true_eq]
  rw [show (2 : Nat) ^ 63 = 9223372036854775808 by decide]
  rw [show (2 : Nat) ^ 52 - 1 = 4503599627370495 by decide] at h2
  omega
/-- what an addition or a product gives -/
def Gives (op : BinOp) (x y r : Nat) : Prop := r < 18446744073709551616 ∧ (floatBits op .f64 x y = some r ∨ floatBits op .f64 x y = none ∧ nan r = true)
theorem arith {P : Program} (op : BinOp) (ho : op = .add ∨ op = .mul) (t : TypeId) (x y : Nat) (w : World) : ∃ r w', (Go.binOp op t (.float .f64 x) (.float .f64 y)).run P w = .ok (.float .f64 r) w' ∧ Below w.heap.size w w' ∧ Gives op x y r := by
  cases h : floatBits op .f64 x y with
  | some r =>
    refine ⟨r, w, run_float_arith w op t .f64 x y r h, Below.refl _ _, ?_, .inl h⟩
    have hw := floatBits_wf h
    simpa [Lit.wf] using hw
  | none =>
    refine ⟨(Question.nanBits .f64 x y).cut (w.tape w.drawn (.nanBits .f64 x y)), w.drew, ?_, (Below.refl w.heap.size w).drew, ?_⟩
    · unfold floatBits at h
      rcases ho with rfl | rfl
      · simp only at h
        simp [Go.binOp, Op.floatArith, h]
        intro hf; change false = true at hf; cases hf
      · simp only at h
        simp [Go.binOp, Op.floatArith, h]
        intro hf; change false = true at hf; cases hf
    · exact ⟨(nan_cut _).2, .inr ⟨h, (nan_cut _).1⟩⟩
def NaN1 : Nat := 9221120237041090561
/-- the one form of what an addition or a product gives -/
def arithV (op : BinOp) (x y : Nat) : Nat := match floatBits op .f64 x y with
  | some r => oneN r
  | none => NaN1
theorem gives_one {op : BinOp} {x y r : Nat} (h : Gives op x y r) : oneN r = arithV op x y := by
  obtain ⟨_, h | ⟨h, hn⟩⟩ := h
  · unfold arithV; rw [h]
  · unfold arithV oneN; rw [h, hn]; rfl
theorem times_calls (a b : Nat) (w : World) : Calls Tryd.prog 28 #[.float .f64 a, .float .f64 b] w fun e w' => e = .returned (.float .f64 (arithV .mul a b)) ∧ Below w.heap.size w w' := by
  obtain ⟨r, w1, hrun, hB, hg⟩ := arith (P := Tryd.prog) .mul (.inr rfl) 22 a b w
  rw [← gives_one hg]
  have H := Lib.hid (fun w => one_calls r w)
  have HB := Lib.hid hB
  clear hB hg
  go_enter Tryd.func28, Tryd.ntmps28
  go_wp2_with (go_at_call 16; refine (H.out _).mono ?_; rintro e w' ⟨rfl, rfl⟩)
  go_ret
  exact ⟨rfl, HB.out⟩
/-- adding from the front: the sum's form -/
def sumV (l : List Nat) (s : Nat) : Nat := l.foldl (fun s x => arithV .add s x) s
end Go.Proofs.YtdkdmclbhcbfeaaDoor.Nu
