/- The walk of WireOrders. -/
import Derived.Test.YtpgnfjmcgfffgaaPlays
namespace Go.Proofs.Ytpgnfjmcgfffgaa
set_option linter.unusedVariables false
set_option linter.unusedSimpArgs false
open Go.RowKit

theorem orders_bad (d : Int) (A : Option Addr) (n c : Nat) (h : d < 0 ∨ 1048576 < d) (w : World) :
    Calls Try.prog 4 #[.int .i64 d, .slice A n c] w fun e w' => e = .returned (.bool true) ∧ Below w.heap.size w w' := by
  have h := Lib.hid h
  go_enter Try.func4, Try.ntmps4
  go_wp2_with fail
  refine (fixed_calls _).mono ?_
  rintro e w0 ⟨rfl, HB0⟩
  have HB0 := Lib.hid HB0
  go_wp2_with fail
  refine (new_bad d h.out _).mono ?_
  rintro e w1 ⟨rfl, rfl⟩
  go_wp2
  go_ret
  exact ⟨rfl, HB0.out⟩

theorem free_next (g : Nat) (d b o m : Int) (w : World) (h : IsW w g d b o) (hr : Real m) (hb : b ≤ m) :
    Calls Try.prog 13 #[.pointer (some ⟨g, 0, none⟩), .int .i64 m] w fun e w' => ∃ t : Int, e = .returned (.tuple #[.int .i64 t, .int .i64 0]) ∧ o ≤ t ∧ b ≤ t ∧ (t = m ∨ t = o) ∧ m ≤ t ∧ w = w' := by
  by_cases hz : m < o
  · exact (free_busy g d b o m w h hr hb hz).mono fun e w' ⟨he, hw⟩ => ⟨o, he, Int.le_refl _, by omega, .inr rfl, by omega, hw⟩
  · exact (free_free g d b o m w h hr (by omega)).mono fun e w' ⟨he, hw⟩ => ⟨m, he, by omega, hb, .inl rfl, Int.le_refl _, hw⟩

set_option maxRecDepth 100000 in
set_option maxHeartbeats 6400000 in
theorem orders_good (d : Int) (A : Option Addr) (n c : Nat) (d0 : 0 ≤ d) (d1 : d ≤ 1048576) (w : World) (hA : OpsAt w A n) (hn : n * 24 ≤ 140737488351232) :
    Calls Try.prog 4 #[.int .i64 d, .slice A n c] w fun e w' => e = .returned (.bool true) ∧ Below w.heap.size w w' := by
  have HA := Lib.hid hA
  clear hA
  go_enter Try.func4, Try.ntmps4
  go_wp2_with fail
  refine (fixed_calls _).mono ?_
  rintro e w0 ⟨rfl, HB0⟩
  have HB0 := Lib.hid HB0
  go_wp2_with fail
  refine (new_good d d0 d1 _).mono ?_
  rintro e w1 ⟨g, rfl, H1, hg, HB⟩
  have hge : w.heap.size ≤ g := by have := HB0.out.size; omega
  have hgl := H1.lt
  have HB1 := Lib.hid (HB0.out.trans (HB.mono HB0.out.size))
  have H1 := Lib.hid H1
  clear HB hg HB0
  go_wp2_with fail
  go_loopw [7, 8, 28] (fun vl vn i wr => ∃ (k : Nat) (b o l m : Int), k ≤ n ∧ i = .int .i64 k ∧ vl = .int .i64 l ∧ vn = .int .i64 m ∧ IsW wr g d b o ∧ 0 ≤ b ∧ b ≤ m ∧ 0 ≤ o ∧ o ≤ 1125899906860000 ∧ (l = -1 ∨ l = o + d) ∧ Below w.heap.size w wr)
    (fun _ _ i _ => n - (intOf i).toNat)
  case atStart => exact ⟨0, 0, 0, -1, 0, Nat.zero_le _, rfl, rfl, rfl, H1.out, by omega, by omega, by omega, by omega, .inl rfl, HB1.out⟩
  case round =>
    obtain ⟨k, b, o, l, m, hk, rfl, rfl, rfl, HW, hb0, hbm, ho0, ho1, hl, HBr⟩ := hrel
    have HW := Lib.hid HW
    have HBr := Lib.hid HBr
    have HL := Lib.hid hl
    clear H1 HB1 hl
    by_cases hlt : k < n
    · obtain ⟨B, off, kk, t, s, rfl, hBw, c0, c1, c2⟩ := HA.out.below HBr.out k hlt
      have hBs := HBr.out.size
      have hBr : B < wr.heap.size := by omega
      by_cases hmt : m < t
      · go_wp2_with fail
        by_cases hr : Real t
        · have HR := Lib.hid hr
          clear hr
          refine (free_next g d b o t _ (blk_alloc HW.out _) HR.out (by omega)).mono ?_
          rintro e w3 ⟨v, rfl, v1, v2, HV3, v4, rfl⟩
          have HV := Lib.hid HV3
          clear HV3
          by_cases big : 1125899906842624 < v
          · have big2 : decide (1125899906842624 < v) = true := by simpa using big
            go_wp2
            go_ret
            exact ⟨rfl, HBr.out.alloc hBs _⟩
          · have big2 : decide (1125899906842624 < v) = false := by simpa using big
            have HW3 := Lib.hid (show IsW (wr.alloc (.cells #[.int .i64 kk, .int .i64 t, .int .i64 s] 31)) g d b o from blk_alloc HW.out _)
            have HO3 := Lib.hid (heap_alloc_new wr (.cells #[.int .i64 kk, .int .i64 t, .int .i64 s] 31))
            have HB3 := Lib.hid (HBr.out.alloc hBs (.cells #[.int .i64 kk, .int .i64 t, .int .i64 s] 31))
            by_cases bs : s < 64 ∨ 1518 < s
            · have HBS := Lib.hid (show BadSend v s from .inr bs)
              by_cases s0 : s < 64
              · have s1 : decide (s < 64) = true := by simpa using s0
                clear bs
                go_wp2_with (go_at_call 11; refine (send_bad _ v s _ (.inr HBS.out)).mono ?_; rintro e w4 ⟨rfl, rfl⟩)
                go_roundw
                case rel => exact ⟨k + 1, b, o, l, t, by omega, by go_num, rfl, rfl, HW3.out, hb0, by omega, ho0, ho1, HL.out, HB3.out⟩
                case measure => simp [intOf]; omega
              · have s1 : decide (s < 64) = false := by simpa using s0
                have s2 : decide (1518 < s) = true := by simp; omega
                clear bs
                go_wp2_with (go_at_call 11; refine (send_bad _ v s _ (.inr HBS.out)).mono ?_; rintro e w4 ⟨rfl, rfl⟩)
                go_roundw
                case rel => exact ⟨k + 1, b, o, l, t, by omega, by go_num, rfl, rfl, HW3.out, hb0, by omega, ho0, ho1, HL.out, HB3.out⟩
                case measure => simp [intOf]; omega
            · have HBS := Lib.hid (show ¬ BadSend v s from fun h => by rcases h with h | h; exact h ⟨by omega, by omega⟩; exact bs h)
              have s1 : decide (s < 64) = false := by simp; omega
              have s2 : decide (1518 < s) = false := by simp; omega
              clear bs
              obtain ⟨F0, F1⟩ := ftime_bd s
              have HT := Lib.hid (fun w => time_calls s w)
              have HS := Lib.hid (send_goes g d b o v s _ HW3.out HBS.out v2 (by omega) d0 d1)
              generalize ftime s = F at *
              go_wp2_with fail
              refine HS.out.mono ?_
              rintro e w4 ⟨rfl, HW4, HG4⟩
              have HO4 := Lib.hid (blk_grown HO3.out HG4 (by simp; exact blk_ne HO3.out HW3.out (by decide)))
              have HB4 := Lib.hid (below_own HB3.out HG4 HB3.out.size hge)
              have HW4 := Lib.hid HW4
              clear HG4 HO3 HB3 HW3 HS
              have o2 := blk_cell HO4.out 2
              rcases HL.out with h | h
              · subst h
                go_wp2_with (go_at_call 16; refine (HT.out _).mono ?_; rintro e w' ⟨rfl, rfl⟩)
                go_roundw
                case rel => exact ⟨k + 1, v, v + F, v + F + d, v, by omega, by go_num, rfl, rfl, HW4.out, by omega, by omega, by omega, by omega, .inr rfl, HB4.out⟩
                case measure => simp [intOf]; omega
              · subst h
                have l0 : decide (0 ≤ o + d) = true := by simp; omega
                have l1 : decide (v + F + d < o + d + F) = false := by simp; omega
                go_wp2_with (go_at_call 16; refine (HT.out _).mono ?_; rintro e w' ⟨rfl, rfl⟩)
                go_roundw
                case rel => exact ⟨k + 1, v, v + F, v + F + d, v, by omega, by go_num, rfl, rfl, HW4.out, by omega, by omega, by omega, by omega, .inr rfl, HB4.out⟩
                case measure => simp [intOf]; omega
        · have HR := Lib.hid hr
          clear hr
          refine (free_bad _ t _ (.inr HR.out)).mono ?_
          rintro e w3 ⟨rfl, rfl⟩
          go_wp2
          go_ret
          exact ⟨rfl, HBr.out.alloc hBs _⟩
      · go_wp2_with fail
        by_cases hr : Real m
        · have HR := Lib.hid hr
          clear hr
          refine (free_next g d b o m _ (blk_alloc HW.out _) HR.out (by omega)).mono ?_
          rintro e w3 ⟨v, rfl, v1, v2, HV3, v4, rfl⟩
          have HV := Lib.hid HV3
          clear HV3
          by_cases big : 1125899906842624 < v
          · have big2 : decide (1125899906842624 < v) = true := by simpa using big
            go_wp2
            go_ret
            exact ⟨rfl, HBr.out.alloc hBs _⟩
          · have big2 : decide (1125899906842624 < v) = false := by simpa using big
            have HW3 := Lib.hid (show IsW (wr.alloc (.cells #[.int .i64 kk, .int .i64 t, .int .i64 s] 31)) g d b o from blk_alloc HW.out _)
            have HO3 := Lib.hid (heap_alloc_new wr (.cells #[.int .i64 kk, .int .i64 t, .int .i64 s] 31))
            have HB3 := Lib.hid (HBr.out.alloc hBs (.cells #[.int .i64 kk, .int .i64 t, .int .i64 s] 31))
            by_cases bs : s < 64 ∨ 1518 < s
            · have HBS := Lib.hid (show BadSend v s from .inr bs)
              by_cases s0 : s < 64
              · have s1 : decide (s < 64) = true := by simpa using s0
                clear bs
                go_wp2_with (go_at_call 11; refine (send_bad _ v s _ (.inr HBS.out)).mono ?_; rintro e w4 ⟨rfl, rfl⟩)
                go_roundw
                case rel => exact ⟨k + 1, b, o, l, m, by omega, by go_num, rfl, rfl, HW3.out, hb0, by omega, ho0, ho1, HL.out, HB3.out⟩
                case measure => simp [intOf]; omega
              · have s1 : decide (s < 64) = false := by simpa using s0
                have s2 : decide (1518 < s) = true := by simp; omega
                clear bs
                go_wp2_with (go_at_call 11; refine (send_bad _ v s _ (.inr HBS.out)).mono ?_; rintro e w4 ⟨rfl, rfl⟩)
                go_roundw
                case rel => exact ⟨k + 1, b, o, l, m, by omega, by go_num, rfl, rfl, HW3.out, hb0, by omega, ho0, ho1, HL.out, HB3.out⟩
                case measure => simp [intOf]; omega
            · have HBS := Lib.hid (show ¬ BadSend v s from fun h => by rcases h with h | h; exact h ⟨by omega, by omega⟩; exact bs h)
              have s1 : decide (s < 64) = false := by simp; omega
              have s2 : decide (1518 < s) = false := by simp; omega
              clear bs
              obtain ⟨F0, F1⟩ := ftime_bd s
              have HT := Lib.hid (fun w => time_calls s w)
              have HS := Lib.hid (send_goes g d b o v s _ HW3.out HBS.out v2 (by omega) d0 d1)
              generalize ftime s = F at *
              go_wp2_with fail
              refine HS.out.mono ?_
              rintro e w4 ⟨rfl, HW4, HG4⟩
              have HO4 := Lib.hid (blk_grown HO3.out HG4 (by simp; exact blk_ne HO3.out HW3.out (by decide)))
              have HB4 := Lib.hid (below_own HB3.out HG4 HB3.out.size hge)
              have HW4 := Lib.hid HW4
              clear HG4 HO3 HB3 HW3 HS
              have o2 := blk_cell HO4.out 2
              rcases HL.out with h | h
              · subst h
                go_wp2_with (go_at_call 16; refine (HT.out _).mono ?_; rintro e w' ⟨rfl, rfl⟩)
                go_roundw
                case rel => exact ⟨k + 1, v, v + F, v + F + d, v, by omega, by go_num, rfl, rfl, HW4.out, by omega, by omega, by omega, by omega, .inr rfl, HB4.out⟩
                case measure => simp [intOf]; omega
              · subst h
                have l0 : decide (0 ≤ o + d) = true := by simp; omega
                have l1 : decide (v + F + d < o + d + F) = false := by simp; omega
                go_wp2_with (go_at_call 16; refine (HT.out _).mono ?_; rintro e w' ⟨rfl, rfl⟩)
                go_roundw
                case rel => exact ⟨k + 1, v, v + F, v + F + d, v, by omega, by go_num, rfl, rfl, HW4.out, by omega, by omega, by omega, by omega, .inr rfl, HB4.out⟩
                case measure => simp [intOf]; omega
        · have HR := Lib.hid hr
          clear hr
          refine (free_bad _ m _ (.inr HR.out)).mono ?_
          rintro e w3 ⟨rfl, rfl⟩
          go_wp2
          go_ret
          exact ⟨rfl, HBr.out.alloc hBs _⟩
    · go_wp2
      go_ret
      exact ⟨rfl, HBr.out⟩

theorem orders_walk {H : Type} {enc : TypeId × Value → H} {base : Nat} {dd : DataW H} {p : List MemPlace} {ts : List TypeId} {ds : List (DataW H)} (d : Int) (_ : (Lit.int .i64 d).wf = true) (v : Value) {w : World}
    (hok : Value.okWide Try.prog w .any base 22 v) (hr : DataW.Trod enc Try.prog w 0 (fun _ => true) true 22 v dd p)
    (hsz : (DataW.weightsEach Try.prog ts ds).all (· ≤ reachBytes) = true) (htj : ts[1]? = some 22) (hdj : ds[1]? = some dd) (w' : World) (hw : w' = w) :
    Calls Try.prog 4 #[.int .i64 d, v] w' fun e w1 => e = .returned (.bool true) ∧ Below w'.heap.size w' w1 := by
  subst hw
  obtain ⟨A, n, c, rfl, hA, hn⟩ := script_open hok hr hsz htj hdj
  by_cases h : d < 0 ∨ 1048576 < d
  · exact orders_bad d A n c h _
  · exact orders_good d A n c (by omega) (by omega) _ hA hn
end Go.Proofs.Ytpgnfjmcgfffgaa
