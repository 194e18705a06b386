/- MulDiv, at any three numbers. -/
import Derived.Test.YtccicjiadahmnaaDoorMd1
namespace Go.Proofs.YtccicjiadahmnaaDoor.Hd
set_option linter.unusedVariables false
set_option linter.unusedSimpArgs false
open Go.RowKit Go.Proofs.YtccicjiadahmnaaDoorW.PrintWords

theorem knownM (a b c : Addr) : KnownI 39 #[.pointer (some a), .pointer (some b), .pointer (some c)] := ⟨fun _ => by kernel_rfl⟩
/-- What the reckoning comes to. -/
theorem md1 (p q r : Nat) (a b c : Int) (ha : inR a) (hb : inR b) (hc : inR c) (hc0 : 0 < c) (w : World) (hp : w.heap[p]? = some (boxN a)) (hq : w.heap[q]? = some (boxN b)) (hr : w.heap[r]? = some (boxN c)) :
    Calls Tryd.prog 39 #[.pointer (some ⟨p, 0, none⟩), .pointer (some ⟨q, 0, none⟩), .pointer (some ⟨r, 0, none⟩)] w fun e w' => e = (if inR (mdv a b c) then .returned (.int .i64 (mdv a b c)) else endB) ∧ Below w.heap.size w w' := by
  have xa := absI_range ha
  have xb := absI_range hb
  have HA := Lib.hid (size_ok a ha w)
  have HB := Lib.hid (size_ok b hb w)
  have HM := Lib.hid (mul_ok (absI a) (absI b) (by omega) (by omega) (by omega) (by omega) w)
  have hXY : 0 ≤ absI a * absI b := Int.mul_nonneg xa.1 xb.1
  have wc : IntKind.u64.wrap c = c := DivP.w64 (by omega) (by unfold inR at hc; omega)
  have hsign := mdv_sign a b c hc0
  have hcR := hc.2
  generalize absI a = X at *
  generalize absI b = Y at *
  generalize decide (a < 0) = sa at *
  generalize decide (b < 0) = sb at *
  generalize mdv a b c = V at *
  generalize X * Y = P at *
  obtain ⟨H, hH⟩ : ∃ H, H = P / 18446744073709551616 := ⟨_, rfl⟩
  obtain ⟨L, hL⟩ : ∃ L, L = P % 18446744073709551616 := ⟨_, rfl⟩
  rw [← hH, ← hL] at HM
  have q0 : 0 ≤ P / c := Int.ediv_nonneg hXY (by omega)
  by_cases hcH : c ≤ H
  · have hV : ¬ inR V := by
      have hbig : 18446744073709551616 ≤ P / c := (Int.le_ediv_iff_mul_le hc0).2 (by omega)
      unfold inR
      rw [hsign]
      split
      · omega
      · split <;> omega
    rw [if_neg hV]
    exact md_far p q r a b c X Y H L sa sb w hp hq hr HA HB HM wc (decide_eq_true hcH)
  · have hP : H * 18446744073709551616 + L = P := by omega
    have HD0 := div_calls H L c (by omega) (by omega) (by omega) (by omega) (by omega) w
    rw [hP] at HD0
    have HD := Lib.hid HD0
    clear HD0
    have m1 := Int.emod_nonneg P (show c ≠ 0 by omega)
    have qb : P / c ≤ 18446744073709551615 := by
      have : P / c < 18446744073709551616 := (Int.ediv_lt_iff_lt_mul hc0).2 (by omega)
      omega
    by_cases hs : (sa == sb) = true
    · rw [if_pos hs] at hsign
      by_cases hV : inR V
      · rw [if_pos hV]
        refine md_near p q r a b c X Y H L _ _ (P / c) sa sb w hp hq hr HA HB HM wc (decide_eq_false hcH) HD _ rfl (Lib.hid (by rw [if_pos hs])) _ (.inl ⟨_, rfl⟩) (Lib.hid ?_)
        rw [hs, hsign]
        exact signed_pos _ q0 (by unfold inR at hV; omega)
      · rw [if_neg hV]
        refine md_near p q r a b c X Y H L _ _ (P / c) sa sb w hp hq hr HA HB HM wc (decide_eq_false hcH) HD _ rfl (Lib.hid (by rw [if_pos hs])) _ (.inr rfl) (Lib.hid ?_)
        rw [hs]
        exact signed_no _ false q0 (by simp; unfold inR at hV; omega)
    · rw [if_neg hs] at hsign
      have hs' : (sa == sb) = false := by simpa using hs
      by_cases hz : P % c = 0
      · rw [if_pos hz] at hsign
        have hz' : (P % c == 0) = true := by simp [hz]
        by_cases hV : inR V
        · rw [if_pos hV]
          refine md_near p q r a b c X Y H L _ _ (P / c) sa sb w hp hq hr HA HB HM wc (decide_eq_false hcH) HD _ hz' (Lib.hid (by rw [if_neg hs, if_pos rfl])) _ (.inl ⟨_, rfl⟩) (Lib.hid ?_)
          rw [hs', hsign]
          exact signed_neg _ q0 (by unfold inR at hV; omega)
        · rw [if_neg hV]
          refine md_near p q r a b c X Y H L _ _ (P / c) sa sb w hp hq hr HA HB HM wc (decide_eq_false hcH) HD _ hz' (Lib.hid (by rw [if_neg hs, if_pos rfl])) _ (.inr rfl) (Lib.hid ?_)
          rw [hs']
          exact signed_no _ true q0 (by simp; unfold inR at hV; omega)
      · rw [if_neg hz] at hsign
        have hz' : (P % c == 0) = false := by simpa using hz
        by_cases hm : P / c = 18446744073709551615
        · have hV : ¬ inR V := by unfold inR; omega
          rw [if_neg hV]
          exact md_max p q r a b c X Y H L _ _ sa sb w hp hq hr HA HB HM wc (decide_eq_false hcH) HD hz' hs' (by simp [hm])
        · have hx : Hid (if (sa == sb) = true then P / c + 1 = P / c else if false = true then P / c + 1 = P / c else (P / c == 18446744073709551615) = false ∧ P / c + 1 = P / c + 1 ∧ 0 ≤ P / c ∧ P / c ≤ 18446744073709551614) := Lib.hid (by
            rw [if_neg hs, if_neg (by decide)]
            exact ⟨by simpa using hm, rfl, q0, by omega⟩)
          by_cases hV : inR V
          · rw [if_pos hV]
            refine md_near p q r a b c X Y H L _ _ (P / c + 1) sa sb w hp hq hr HA HB HM wc (decide_eq_false hcH) HD _ hz' hx _ (.inl ⟨_, rfl⟩) (Lib.hid ?_)
            rw [hs', hsign, show -(P / c) - 1 = -(P / c + 1) by omega]
            exact signed_neg _ (by omega) (by unfold inR at hV; omega)
          · rw [if_neg hV]
            refine md_near p q r a b c X Y H L _ _ (P / c + 1) sa sb w hp hq hr HA HB HM wc (decide_eq_false hcH) HD _ hz' hx _ (.inr rfl) (Lib.hid ?_)
            rw [hs']
            exact signed_no _ true (by omega) (by simp; unfold inR at hV; omega)
theorem three_top (w : World) (o1 o2 o3 : Obj) : (((w.alloc o1).alloc o2).alloc o3).heap[w.heap.size + 2]? = some o3 := by
  have h := heap_alloc_new ((w.alloc o1).alloc o2) o3
  simpa using h
def tick_MulDiv.f (a0 a1 a2 : Int) : Option (Int × Int) := if inR a0 ∧ inR a1 ∧ inR a2 then (if a2 ≤ 0 then some (0, 1) else some (val (mdv a0 a1 a2), err (mdv a0 a1 a2))) else none
theorem MulDiv_no (a b c : Int) (hc : c ≤ 0) (w : World) : Calls Tryd.prog 19 #[.int .i64 a, .int .i64 b, .int .i64 c] w fun e w' => e = .returned (.tuple #[.int .i64 0, .int .i64 1]) ∧ Below w.heap.size w w' := by
  go_enter Tryd.func19, Tryd.ntmps19
  go_wp2
  go_ret2
  exact ⟨rfl, (((Below.refl w.heap.size w).alloc (Nat.le_refl _) _).alloc (by simp) _).alloc (by simp; omega) _⟩
theorem MulDiv_calls (a b c : Int) (ha : inR a) (hb : inR b) (hc : inR c) (hc0 : 0 < c) (w : World) : Calls Tryd.prog 19 #[.int .i64 a, .int .i64 b, .int .i64 c] w fun e w' => e = .returned (.tuple #[.int .i64 (val (mdv a b c)), .int .i64 (err (mdv a b c))]) ∧ Below w.heap.size w w' := by
  have hmf := mkf
  have hle : ¬ c ≤ 0 := by omega
  have HC := Lib.hid (show Calls Tryd.prog 30 #[.func (.func 39) #[] #[.pointer (some ⟨w.heap.size, 0, none⟩), .pointer (some ⟨w.heap.size + 1, 0, none⟩), .pointer (some ⟨w.heap.size + 2, 0, none⟩)]] (((w.alloc (boxN a)).alloc (boxN b)).alloc (boxN c)) fun e w' => e = .returned (.tuple #[.int .i64 (val (mdv a b c)), .int .i64 (err (mdv a b c))]) ∧ Below w.heap.size w w' from by
    have hb0 : Below w.heap.size w (((w.alloc (boxN a)).alloc (boxN b)).alloc (boxN c)) := (((Below.refl w.heap.size w).alloc (Nat.le_refl _) _).alloc (by simp) _).alloc (by simp; omega) _
    have hp : (((w.alloc (boxN a)).alloc (boxN b)).alloc (boxN c)).heap[w.heap.size]? = some (boxN a) := blk_alloc (blk_alloc (heap_alloc_new w _) _) _
    have hq : (((w.alloc (boxN a)).alloc (boxN b)).alloc (boxN c)).heap[w.heap.size + 1]? = some (boxN b) := blk_alloc (two_top w _ _) _
    have hr := three_top w (boxN a) (boxN b) (boxN c)
    have hG : ∀ W, Below (((w.alloc (boxN a)).alloc (boxN b)).alloc (boxN c)).heap.size (((w.alloc (boxN a)).alloc (boxN b)).alloc (boxN c)) W → Calls Tryd.prog 39 #[.pointer (some ⟨w.heap.size, 0, none⟩), .pointer (some ⟨w.heap.size + 1, 0, none⟩), .pointer (some ⟨w.heap.size + 2, 0, none⟩)] W fun e w' => e = (if inR (mdv a b c) then .returned (.int .i64 (mdv a b c)) else endB) ∧ Below W.heap.size W w' :=
      fun W hW => md1 _ _ _ a b c ha hb hc hc0 W (blk_below hp hW (blk_lt hp)) (blk_below hq hW (blk_lt hq)) (blk_below hr hW (blk_lt hr))
    unfold val err
    by_cases hs : inR (mdv a b c)
    · rw [if_pos hs, if_pos hs]
      exact (checked_ok _ _ (knownM _ _ _) (mdv a b c) _ fun W hW => (hG W hW).mono fun e w' h => by rw [if_pos hs] at h; exact h).mono fun e w' ⟨he, h⟩ => ⟨he, hb0.trans (h.mono (by simp; omega))⟩
    · rw [if_neg hs, if_neg hs]
      exact (checked_beyond _ _ (knownM _ _ _) _ fun W hW => (hG W hW).mono fun e w' h => by rw [if_neg hs] at h; exact h).mono fun e w' ⟨he, h⟩ => ⟨he, hb0.trans (h.mono (by simp; omega))⟩)
  generalize val (mdv a b c) = V at HC ⊢
  generalize err (mdv a b c) = E at HC ⊢
  clear ha hb hc hc0
  go_enter Tryd.func19, Tryd.ntmps19
  go_wp2_with fail
  refine HC.out.mono ?_
  rintro e w1 ⟨rfl, hB⟩
  go_wp2
  go_ret2
  exact ⟨rfl, hB⟩
theorem tick_MulDiv.calls (a0 a1 a2 r1 r2 : Int) (w : World) (h : tick_MulDiv.f a0 a1 a2 = some (r1, r2)) : Calls Tryd.prog 19 #[.int .i64 a0, .int .i64 a1, .int .i64 a2] w fun e w' => e = .returned (.tuple #[.int .i64 r1, .int .i64 r2]) ∧ Below w.heap.size w w' := by
  unfold tick_MulDiv.f at h
  split at h
  · rename_i hr
    split at h
    · rename_i hc
      simp only [Option.some.injEq, Prod.mk.injEq] at h
      obtain ⟨rfl, rfl⟩ := h
      exact MulDiv_no a0 a1 a2 hc w
    · rename_i hc
      simp only [Option.some.injEq, Prod.mk.injEq] at h
      obtain ⟨rfl, rfl⟩ := h
      exact MulDiv_calls a0 a1 a2 hr.1 hr.2.1 hr.2.2 (by omega) w
  · cases h
def tick_Add.f (a0 a1 : Int) : Option (Int × Int) := if inR a0 ∧ inR a1 then some (val (a0 + a1), err (a0 + a1)) else none
theorem tick_Add.calls (a0 a1 r1 r2 : Int) (w : World) (h : tick_Add.f a0 a1 = some (r1, r2)) : Calls Tryd.prog 11 #[.int .i64 a0, .int .i64 a1] w fun e w' => e = .returned (.tuple #[.int .i64 r1, .int .i64 r2]) ∧ Below w.heap.size w w' := by
  unfold tick_Add.f at h
  split at h
  · rename_i hr
    simp only [Option.some.injEq, Prod.mk.injEq] at h
    obtain ⟨rfl, rfl⟩ := h
    exact Add_calls a0 a1 hr.1 hr.2 w
  · cases h
def tick_Sub.f (a0 a1 : Int) : Option (Int × Int) := if inR a0 ∧ inR a1 then some (val (a0 - a1), err (a0 - a1)) else none
theorem tick_Sub.calls (a0 a1 r1 r2 : Int) (w : World) (h : tick_Sub.f a0 a1 = some (r1, r2)) : Calls Tryd.prog 12 #[.int .i64 a0, .int .i64 a1] w fun e w' => e = .returned (.tuple #[.int .i64 r1, .int .i64 r2]) ∧ Below w.heap.size w w' := by
  unfold tick_Sub.f at h
  split at h
  · rename_i hr
    simp only [Option.some.injEq, Prod.mk.injEq] at h
    obtain ⟨rfl, rfl⟩ := h
    exact Sub_calls a0 a1 hr.1 hr.2 w
  · cases h
end Go.Proofs.YtccicjiadahmnaaDoor.Hd
