/- strconv.FormatUint at base 16, walked; num.Print. -/
import Derived.Test.YtdkdmclbhcbfeaaDoorTabs
import Derived.Test.YtdkdmclbhcbfeaaDoorF
import Derived.Test.YtdkdmclbhcbfeaaDoorSc
import Derived.Test.YtdkdmclbhcbfeaaDoorB
import Derived.Shelf.Abstract
import Derived.Lib.Hide
import Derived.Lib.Walk
import Derived.Laws.IdiomStrings
import Derived.Lib.Strings
import Derived.WideShapes
namespace Go.Proofs.YtdkdmclbhcbfeaaDoor.Nu
open Go.RowKit Go.Proofs.YtdkdmclbhcbfeaaDoor.Fl Go.Proofs.YtdkdmclbhcbfeaaDoorW.PrintWords Go.Proofs.YtdkdmclbhcbfeaaDoorW.PrintLast Go.Proofs.YtdkdmclbhcbfeaaDoorW.PrintMore
set_option linter.unusedVariables false
set_option linter.unusedSimpArgs false
def hexT : ByteArray := ⟨#[48, 49, 50, 51, 52, 53, 54, 55, 56, 57, 97, 98, 99, 100, 101, 102]⟩
def hexD (x : Nat) : UInt8 := if x < 10 then UInt8.ofNat (48 + x) else UInt8.ofNat (87 + x)
/-- the last d digits of u -/
def hexL : Nat → Nat → List UInt8
  | 0, _ => []
  | d + 1, u => hexD (u / 16 ^ d % 16) :: hexL d u
theorem hexL_length (d u : Nat) : (hexL d u).length = d := by
  induction d with
  | zero => rfl
  | succ d ih => simp [hexL, ih]
theorem trail64_calls (w : World) (hT : w.cell? ⟨5, 15, none⟩ = some (.int .u8 4)) : Calls Tryd.prog 87 #[.int .u64 16] w fun e w' => e = .returned (.int .i64 4) ∧ w = w' := by
  have ew : IntKind.u64.wrap (-16) = 18446744073709551600 := by decide
  have ea : bits .and .u64 16 18446744073709551600 = 16 := by decide +kernel
  have em : IntKind.u64.wrap 4573923408821661840 = 4573923408821661840 := by decide
  go_enter Tryd.func87, Tryd.ntmps87
  go_wp2
  go_ret
  exact ⟨rfl, rfl⟩
theorem trail_calls (w : World) (hT : w.cell? ⟨5, 15, none⟩ = some (.int .u8 4)) : Calls Tryd.prog 81 #[.int .u64 16] w fun e w' => e = .returned (.int .i64 4) ∧ w = w' := by
  have e1 : ∀ args w, (callFunc 87 args).run Tryd.prog w = .ok (.enter 87 args) w := enters_of Tryd.func87 (by kernel_rfl) rfl
  have H := Lib.hid (trail64_calls w hT)
  clear hT
  go_enter Tryd.func81, Tryd.ntmps81
  go_wp2_with fail
  refine H.out.mono ?_
  rintro e w' ⟨rfl, rfl⟩
  go_wp2
  go_ret
  exact ⟨rfl, rfl⟩
theorem pow2_calls (w : World) : Calls Tryd.prog 80 #[.int .i64 16] w fun e w' => e = .returned (.bool true) ∧ w = w' := by
  go_enter Tryd.func80, Tryd.ntmps80
  go_wp2
  go_ret
  exact ⟨rfl, rfl⟩
def digs : ByteArray := ⟨#[48, 49, 50, 51, 52, 53, 54, 55, 56, 57, 97, 98, 99, 100, 101, 102, 103, 104, 105, 106, 107, 108, 109, 110, 111, 112, 113, 114, 115, 116, 117, 118, 119, 120, 121, 122]⟩
theorem digs_at : ∀ x : Fin 16, (digs[x.val]?).getD 0 = hexD x.val := by decide +kernel
theorem idx_digs (x : Nat) (hx : x < 16) (k : IntKind) (w : World) : (Instr.index 9 (.string digs) (.int k (x : Int))).run Tryd.prog w = .ok (.int .u8 ((hexD x).toNat : Int)) w := by
  have hs : digs.size = 36 := by decide +kernel
  have h2 : ((x : Int)).toNat < digs.size := by rw [hs]; omega
  rw [run_index_string w _ digs k _ Tryd.underlying9, dif_pos (by rw [hs]; omega)]
  have := digs_at ⟨x, hx⟩
  simp only [Int.toNat_natCast] at h2 ⊢
  rw [ByteArray.getElem?_lt' _ _ h2, Option.getD_some] at this
  rw [this]
theorem digs_size : digs.size = 36 := by decide +kernel
theorem digs_get (x : Nat) (hx : x < 16) (h : x < digs.size) : digs[x]'h = hexD x := by
  have := digs_at ⟨x, hx⟩
  rw [ByteArray.getElem?_lt' _ _ h, Option.getD_some] at this
  exact this
/-- the digits of u so far, at the end of the block that was made -/
structure FB (w : World) (u d v : Nat) (W : World) : Prop where
  b : Below w.heap.size w W
  v : v = u / 16 ^ d
  c : ∃ cs ty, W.heap[w.heap.size]? = some (.cells cs ty (0, 0)) ∧ cs.size = 65 ∧ ∀ j x, (hexL d u)[j]? = some x → cs[65 - d + j]? = some (.int .u8 (x.toNat : Int))
theorem FB.cell {w W : World} {u d v m : Nat} (h : FB w u d v W) (hm : m < 65) : ∃ x, W.cell? ⟨w.heap.size, m, none⟩ = some x := by
  obtain ⟨cs, ty, h1, h2, _⟩ := h.c
  exact ⟨cs[m], by rw [blk_cell h1, Array.getElem?_eq_getElem (by omega)]⟩
theorem FB.frozen {w W : World} {u d v m : Nat} (h : FB w u d v W) : W.frozen? ⟨w.heap.size, m, none⟩ = false := by
  obtain ⟨cs, ty, h1, h2, _⟩ := h.c
  exact blk_frozen h1 _
theorem FB.lt {w W : World} {u d v : Nat} (h : FB w u d v W) : w.heap.size < W.heap.size := by
  obtain ⟨cs, ty, h1, h2, _⟩ := h.c
  exact blk_lt h1
theorem FB.put {w W : World} {u d v m : Nat} (h : FB w u d v W) (hm : 65 = d + m + 1) : FB w u (d + 1) (v / 16) (W.setCell ⟨w.heap.size, m, none⟩ (.int .u8 ((hexD (v % 16)).toNat : Int))) := by
  obtain ⟨cs, ty, h1, h2, h3⟩ := h.c
  refine ⟨h.b.setCell (Nat.le_refl _) _ , ?_, _, ty, blk_set h1 _ _, by simpa using h2, ?_⟩
  · rw [h.v, Nat.div_div_eq_div_mul, Nat.pow_succ]
  · intro j x hj
    rcases j with _ | j
    · simp only [hexL, List.getElem?_cons_zero, Option.some.injEq] at hj
      rw [← h.v] at hj
      rw [show 65 - (d + 1) + 0 = m by omega, Array.getElem?_setIfInBounds_self_of_lt (by omega), hj]
    · simp only [hexL, List.getElem?_cons_succ] at hj
      rw [show 65 - (d + 1) + (j + 1) = 65 - d + j by have := (List.getElem?_eq_some_iff.1 hj).1; rw [hexL_length] at this; omega, Array.getElem?_setIfInBounds_ne (by omega)]
      exact h3 j x hj
theorem FB.text {w W : World} {u d v m : Nat} (h : FB w u d v W) (hm : 65 = d + m) : (convert 62 9 (.slice (some ⟨w.heap.size, m, none⟩) d d)).run Tryd.prog W = .ok (.string ⟨(hexL d u).toArray⟩) W := by
  obtain ⟨cs, ty, h1, h2, h3⟩ := h.c
  have := run_convert_bytes_back (P := Tryd.prog) W 62 9 5 ⟨w.heap.size, m, none⟩ d (hexL d u) Tryd.underlying62 Tryd.underlying5 Tryd.underlying9 (fun j hj => by
    rw [Go.WideShapes.add_plain, blk_cell h1, show m + j = 65 - d + j by omega]
    exact h3 j _ (by rw [List.getElem?_eq_getElem hj]))
  rw [hexL_length] at this
  exact this
theorem below16 {u d : Nat} (h : u / 16 ^ d < 16) : u < 16 ^ (d + 1) := by
  have := (Nat.div_lt_iff_lt_mul (Nat.pow_pos (by decide : 0 < 16))).1 h
  rw [Nat.pow_succ, Nat.mul_comm]
  exact this
theorem fit {u d : Nat} (hu : u < 18446744073709551616) (h : 16 ≤ u / 16 ^ d) : d ≤ 14 := by
  rcases Nat.lt_or_ge 14 d with hd | hd
  · exfalso
    have h1 : 16 ^ 15 ≤ 16 ^ d := Nat.pow_le_pow_right (by decide) hd
    have h2 : u / 16 ^ d ≤ u / 16 ^ 15 := Nat.div_le_div_left h1 (by decide)
    have h3 : u / 16 ^ 15 < 16 := Nat.div_lt_of_lt_mul (by have h9 : (16:Nat) ^ 15 * 16 = 18446744073709551616 := (by decide); omega)
    omega
  · exact hd
set_option maxHeartbeats 3200000 in
set_option maxRecDepth 100000 in
theorem fbits_calls (u : Nat) (hu : u < 18446744073709551616) (w : World) (hT : w.cell? ⟨5, 15, none⟩ = some (.int .u8 4)) :
    Calls Tryd.prog 66 #[.slice none 0 0, .int .u64 (u : Int), .int .i64 16, .bool false, .bool false] w fun e w' => (∃ d, 1 ≤ d ∧ d ≤ 16 ∧ u < 16 ^ d ∧ e = .returned (.tuple #[.slice none 0 0, .string ⟨(hexL d u).toArray⟩])) ∧ Below w.heap.size w w' := by
  have H1 := Lib.hid (fun w => pow2_calls w)
  have H2 := Lib.hid (fun W (hb : Below w.heap.size w W) => trail_calls W (cell_kept hb hT))
  have hp : (bits .and .i64 16 15 == 0) = true := by decide +kernel
  have HT := Lib.hid hT
  have HU := Lib.hid hu
  have hal : Tryd.prog.arrayLen 99 = 65 := by kernel_rfl
  clear hT hu
  go_enter Tryd.func66, Tryd.ntmps66
  go_wp2_with (first | (go_at_call 80; refine (H1.out _).mono ?_; rintro e w' ⟨rfl, rfl⟩) | (go_at_call 81; refine (H2.out _ (below_alloc (Below.refl _ _) _)).mono ?_; rintro e w' ⟨rfl, rfl⟩))
  obtain ⟨W1, hW1⟩ : ∃ W1, W1 = w.alloc (Obj.cells Tryd.zeroCells99 99) := ⟨_, rfl⟩
  have F0 := Lib.hid (show FB w u 0 u W1 from by
    subst hW1
    exact ⟨below_alloc (Below.refl _ _) _, by simp, _, _, blk_new w _, by decide +kernel, fun j x h => by simp [hexL] at h⟩)
  rw [← hW1]
  clear hW1
  go_loopg [1, 13] 16 (fun gg s1 s13 W => ∃ (d v m : Nat) (wr : World), s1 = .int .u64 v ∧ s13 = .int .i64 m ∧ 65 = d + m ∧ d ≤ 15 ∧ 16 - d ≤ gg ∧ wr = W ∧ Aside (FB w u d v wr))
  case atStart => exact ⟨0, u, 65, _, rfl, rfl, by omega, by omega, by omega, rfl, F0.out⟩
  case round =>
    obtain ⟨d, v, m, wr, rfl, rfl, hdm, hd, hg, rfl, FI⟩ := hrel
    have hlt := FI.out.lt
    have hvv := FI.out.v
    obtain ⟨q, hq⟩ : ∃ q, m = q + 1 := ⟨m - 1, by omega⟩
    subst hq
    obtain ⟨x0, hc⟩ := FI.out.cell (m := q) (by omega)
    have hf := FI.out.frozen (m := q)
    have FN := Lib.hid (FI.out.put (m := q) (by omega))
    have hv64 : v < 18446744073709551616 := by rw [hvv]; exact Nat.lt_of_le_of_lt (Nat.div_le_self _ _) HU.out
    have HV := Lib.hid hvv
    clear hvv
    by_cases h16 : 16 ≤ v
    · have h14 : d ≤ 14 := fit HU.out (by rw [← HV.out]; exact h16)
      have i1 : (16 : Int) ≤ (v : Int) := by omega
      have ha : bits .and .u64 (v : Int) 15 = ((v % 16 : Nat) : Int) := by
        have := u64_mask 4 (by decide) (v : Int) (by omega) (by omega)
        simpa using this
      have hX := Lib.hid (fun h => digs_get (v % 16) (Nat.mod_lt _ (by decide)) h)
      go_wp2
      go_roundg (16 - (d + 1))
      case measure => omega
      case rel => exact ⟨d + 1, v / 16, q, _, by go_num, rfl, by omega, by omega, by omega, rfl, (show Aside _ from by have h := FN.out; rw [← hX.out (by rw [digs_size]; omega)] at h; exact h)⟩
    · have i1 : (v : Int) < (16 : Int) := by omega
      have hm16 : v % 16 = v := by omega
      have hX : ∀ h, (⟨#[48, 49, 50, 51, 52, 53, 54, 55, 56, 57, 97, 98, 99, 100, 101, 102, 103, 104, 105, 106, 107, 108, 109, 110, 111, 112, 113, 114, 115, 116, 117, 118, 119, 120, 121, 122]⟩ : ByteArray)[v]'h = hexD v := fun h => digs_get v (by omega) h
      rw [hm16] at FN
      clear hm16
      have hcv := FN.out.text (m := q) (by omega)
      have hsl : ∀ W, (Instr.sliceAt 99 (.pointer (some ⟨w.heap.size, 0, none⟩)) (some (.int .i64 (q : Int))) none none).run Tryd.prog W = .ok (.slice (some ⟨w.heap.size, q, none⟩) (d + 1) (d + 1)) W := fun W => by
        rw [run_sliceAt_array_l W 99 ⟨w.heap.size, 0, none⟩ (by kernel_rfl) .i64 (q : Int) (by omega) (by rw [hal]; omega)]
        go_simp
        omega
      have hvd : u < 16 ^ (d + 1) := below16 (by rw [← HV.out]; omega)
      have HE := Lib.hid hvd
      clear hvd
      go_wp2
      go_ret2
      exact ⟨⟨d + 1, by omega, by omega, HE.out, rfl⟩, FN.out.b⟩
end Go.Proofs.YtdkdmclbhcbfeaaDoor.Nu
