/- The reckoning of a product that is divided. -/
import Derived.Test.YtccicjiadahmnaaDoorMd
namespace Go.Proofs.YtccicjiadahmnaaDoor.Hd
set_option linter.unusedVariables false
set_option linter.unusedSimpArgs false
open Go.RowKit Go.Proofs.YtccicjiadahmnaaDoorW.PrintWords

abbrev endB : Ending := .panicked [{ v := beyond, recovered := false }]
theorem below_drewN' (w : World) (n : Nat) : Below w.heap.size w (w.drewN n) := (Drawn0.mk ⟨n, rfl⟩ : Drawn0 w (w.drewN n)).below
abbrev Sz (a X : Int) (s : Bool) (w : World) : Prop := Calls Tryd.prog 40 #[.int .i64 a] w fun e w' => e = .returned (.tuple #[.int .u64 X, .bool s]) ∧ w = w'
abbrev Ml (X Y H L : Int) (w : World) : Prop := Calls Tryd.prog 41 #[.int .u64 X, .int .u64 Y] w fun e w' => e = .returned (.tuple #[.int .u64 H, .int .u64 L]) ∧ w = w'
abbrev Dv (H L c Q R : Int) (w : World) : Prop := Calls Tryd.prog 42 #[.int .u64 H, .int .u64 L, .int .u64 c] w fun e w' => e = .returned (.tuple #[.int .u64 Q, .int .u64 R]) ∧ Drawn0 w w'
abbrev Sg (Q : Int) (neg : Bool) (e0 : Ending) : Prop := ∀ w, Calls Tryd.prog 43 #[.int .u64 Q, .bool neg] w fun e w' => e = e0 ∧ w = w'

theorem md_far (p q r : Nat) (a b c X Y H L : Int) (sa sb : Bool) (w : World) (hp : w.heap[p]? = some (boxN a)) (hq : w.heap[q]? = some (boxN b)) (hr : w.heap[r]? = some (boxN c))
    (HA : Hid (Sz a X sa w)) (HB : Hid (Sz b Y sb w)) (HM : Hid (Ml X Y H L w)) (wc : IntKind.u64.wrap c = c) (hc : decide (c ≤ H) = true) :
    Calls Tryd.prog 39 #[.pointer (some ⟨p, 0, none⟩), .pointer (some ⟨q, 0, none⟩), .pointer (some ⟨r, 0, none⟩)] w fun e w' => e = endB ∧ Below w.heap.size w w' := by
  have p0 := blk_cell hp 0
  have q0 := blk_cell hq 0
  have r0 := blk_cell hr 0
  clear hp hq hr
  go_enter Tryd.func39, Tryd.ntmps39
  go_wp2_with fail
  refine HA.out.mono ?_
  rintro e w' ⟨rfl, rfl⟩
  go_wp2_with fail
  refine HB.out.mono ?_
  rintro e w' ⟨rfl, rfl⟩
  go_wp2_with fail
  refine HM.out.mono ?_
  rintro e w' ⟨rfl, rfl⟩
  go_wp2
  exact ⟨rfl, rfl, Below.refl _ _⟩
theorem md_near (p q r : Nat) (a b c X Y H L Q R Q' : Int) (sa sb : Bool) (w : World) (hp : w.heap[p]? = some (boxN a)) (hq : w.heap[q]? = some (boxN b)) (hr : w.heap[r]? = some (boxN c))
    (HA : Hid (Sz a X sa w)) (HB : Hid (Sz b Y sb w)) (HM : Hid (Ml X Y H L w)) (wc : IntKind.u64.wrap c = c) (hc : decide (c ≤ H) = false) (HD : Hid (Dv H L c Q R w)) (rz : Bool) (hrz : (R == 0) = rz)
    (hq' : Hid (if sa == sb then Q' = Q else if rz then Q' = Q else (Q == 18446744073709551615) = false ∧ Q' = Q + 1 ∧ 0 ≤ Q ∧ Q ≤ 18446744073709551614)) (e0 : Ending) (he : (∃ v, e0 = .returned (.int .i64 v)) ∨ e0 = endB) (HS : Hid (Sg Q' (!(sa == sb)) e0)) :
    Calls Tryd.prog 39 #[.pointer (some ⟨p, 0, none⟩), .pointer (some ⟨q, 0, none⟩), .pointer (some ⟨r, 0, none⟩)] w fun e w' => e = e0 ∧ Below w.heap.size w w' := by
  have p0 := blk_cell hp 0
  have q0 := blk_cell hq 0
  have r0 := blk_cell hr 0
  have hdr := below_drewN' w
  have HDR := Lib.hid hdr
  clear hp hq hr hdr
  have hx := hq'.out
  clear hq'
  cases sa <;> cases sb <;> cases rz <;> simp at hx HS
  all_goals first
    | (obtain ⟨hx1, hx2, hx3, hx4⟩ := hx
       have hw : IntKind.u64.wrap (Q + 1) = Q + 1 := by rw [DivP.w64m]; omega
       have hm : (Q == 18446744073709551615) = false := by simpa using hx1
       obtain rfl := hx2
       clear hx1)
    | (obtain rfl := hx
       have hw := True.intro)
  all_goals
    go_enter Tryd.func39, Tryd.ntmps39
    go_wp2_with fail
    refine HA.out.mono ?_
    rintro e w' ⟨rfl, rfl⟩
    go_wp2_with fail
    refine HB.out.mono ?_
    rintro e w' ⟨rfl, rfl⟩
    go_wp2_with fail
    refine HM.out.mono ?_
    rintro e w' ⟨rfl, rfl⟩
    go_wp2_with fail
    refine HD.out.mono ?_
    rintro e w' ⟨rfl, ⟨nd, rfl⟩⟩
    go_wp2_with fail
    refine (HS.out _).mono ?_
    rintro e w' ⟨rfl, rfl⟩
    rcases he with ⟨v, rfl⟩ | rfl
    · go_wp2
      go_ret
      exact ⟨rfl, HDR.out _⟩
    · exact ⟨rfl, rfl, HDR.out _⟩
theorem md_max (p q r : Nat) (a b c X Y H L Q R : Int) (sa sb : Bool) (w : World) (hp : w.heap[p]? = some (boxN a)) (hq : w.heap[q]? = some (boxN b)) (hr : w.heap[r]? = some (boxN c))
    (HA : Hid (Sz a X sa w)) (HB : Hid (Sz b Y sb w)) (HM : Hid (Ml X Y H L w)) (wc : IntKind.u64.wrap c = c) (hc : decide (c ≤ H) = false) (HD : Hid (Dv H L c Q R w)) (hrz : (R == 0) = false) (hs : (sa == sb) = false) (hm : (Q == 18446744073709551615) = true) :
    Calls Tryd.prog 39 #[.pointer (some ⟨p, 0, none⟩), .pointer (some ⟨q, 0, none⟩), .pointer (some ⟨r, 0, none⟩)] w fun e w' => e = endB ∧ Below w.heap.size w w' := by
  have p0 := blk_cell hp 0
  have q0 := blk_cell hq 0
  have r0 := blk_cell hr 0
  have hdr := below_drewN' w
  have HDR := Lib.hid hdr
  clear hp hq hr hdr
  cases sa <;> cases sb <;> simp at hs
  all_goals
    go_enter Tryd.func39, Tryd.ntmps39
    go_wp2_with fail
    refine HA.out.mono ?_
    rintro e w' ⟨rfl, rfl⟩
    go_wp2_with fail
    refine HB.out.mono ?_
    rintro e w' ⟨rfl, rfl⟩
    go_wp2_with fail
    refine HM.out.mono ?_
    rintro e w' ⟨rfl, rfl⟩
    go_wp2_with fail
    refine HD.out.mono ?_
    rintro e w' ⟨rfl, ⟨nd, rfl⟩⟩
    go_wp2
    exact ⟨rfl, rfl, HDR.out _⟩
end Go.Proofs.YtccicjiadahmnaaDoor.Hd
