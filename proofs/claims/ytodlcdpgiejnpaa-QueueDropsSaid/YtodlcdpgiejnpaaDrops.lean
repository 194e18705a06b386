/- The law: what is dropped is gone, the rest comes out as it would have. -/
import Derived.Test.YtodlcdpgiejnpaaStrip
import Derived.Test.YtodlcdpgiejnpaaOrders
namespace Go.Proofs.Ytodlcdpgiejnpaa
set_option linter.unusedVariables false
set_option linter.unusedSimpArgs false
open Go.RowKit Hp QI

theorem drop_nilf (g : Nat) (bo : Option Nat) (most num : Int) (S : List (It Int)) (w : World) (h : QAt w g bo most num S) : Calls Try.prog 17 #[.pointer (some ⟨g, 0, none⟩), .nilFunc] w fun e w' => e = .returned (.int .i64 0) ∧ Below w.heap.size w w' := by
  have hnil : ∀ w : World, (binOp .eql 47 .nilFunc .nilFunc).run Try.prog w = .ok (.bool true) w := fun _ => by kernel_rfl
  clear h
  go_enter Try.func17, Try.ntmps17
  go_wp2
  go_ret
  exact ⟨rfl, (Below.refl _ _).alloc (Nat.le_refl _) _⟩

/-- the closure of the law: it takes the next out of c, and looks whether it is the one that is asked -/
theorem drops1_calls (gc tc tt tb : Nat) (bc : Option Nat) (th nc : Int) (y : It Int) (S : List (It Int)) (W : World) (hq : QAt W gc bc 65536 nc (y :: S)) (hc : W.heap[tc]? = some (.cells #[.pointer (some ⟨gc, 0, none⟩)] 37 (0, 0)))
    (ht : W.heap[tt]? = some (.cells #[.bool true] 4 (0, 0))) (hb : W.heap[tb]? = some (.cells #[.int .i64 th] 3 (0, 0))) (h1 : tc ≠ gc ∧ some tc ≠ bc) (h2 : tt ≠ gc ∧ some tt ≠ bc) (h3 : tb ≠ gc ∧ some tb ≠ bc) (h4 : tb ≠ tt) :
    Calls Try.prog 18 #[.int .i64 y.x, .pointer (some ⟨tc, 0, none⟩), .pointer (some ⟨tt, 0, none⟩), .pointer (some ⟨tb, 0, none⟩)] W fun e W' =>
      e = .returned (.bool (decide (th ≤ y.x))) ∧ ∃ w1, QAt w1 gc bc 65536 nc S ∧ Fr W w1 gc bc bc ∧ W' = w1.setCell ⟨tt, 0, none⟩ (.bool true) := by
  have c0 := blk_cell hc 0
  have HC := Lib.hid (pop_at hq)
  have HT := Lib.hid ht
  have HB := Lib.hid hb
  have HTL := Lib.hid (blk_lt ht)
  have HBL := Lib.hid (blk_lt hb)
  have H2 := Lib.hid h2
  have H3 := Lib.hid h3
  have htb : ¬ tb = tt := h4
  clear hq hc ht hb h1 h2 h3
  obtain ⟨x, hx⟩ : ∃ x, x = y.x := ⟨_, rfl⟩
  rw [← hx] at HC ⊢
  clear hx
  go_enter Try.func18, Try.ntmps18
  go_wp2_with fail
  refine HC.out.mono ?_
  rintro e w1 ⟨rfl, hq1, hF⟩
  have ht1 := (hF.block tt HTL.out H2.out.1 H2.out.2).trans HT.out
  have hb1 := (hF.block tb HBL.out H3.out.1 H3.out.2).trans HB.out
  have t0 := blk_cell ht1 0
  have f0 := blk_frozen ht1 0
  have b0 := blk_cell hb1 0
  have HQ1 := Lib.hid hq1
  have HF := Lib.hid hF
  clear hq1 hF ht1 hb1 HC c0
  go_wp2
  go_ret
  exact ⟨by simp, w1, HQ1.out, HF.out, rfl⟩
end Go.Proofs.Ytodlcdpgiejnpaa
